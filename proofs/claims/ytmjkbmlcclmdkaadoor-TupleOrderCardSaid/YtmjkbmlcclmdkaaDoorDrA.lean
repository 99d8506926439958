/-
  The walk of TupleOrder.
-/
import Derived.Test.YtmjkbmlcclmdkaaDoorAwk
namespace Go.Proofs.YtmjkbmlcclmdkaaDoor
open Go Go.Gw Go.NumP Go.CrcP Go.SealP Go.TupP Go.DoorP Go.RowKit
set_option linter.unusedVariables false
set_option linter.unusedSimpArgs false


set_option maxHeartbeats 4000000 in
theorem lorder_c (a b : Int) (ha : Fit a) (hb : Fit b) (s t x y : List UInt8) (hs : s.length ≤ 140737488355328) (ht : t.length ≤ 140737488355328) (hx : x.length ≤ 140737488355328) (hy : y.length ≤ 140737488355328) (w : World) :
    Calls Tryd.prog 3 #[.int .i64 a, .int .i64 b, .string (sb s), .string (sb t), .string (sb x), .string (sb y)] w (fun e w' => e = .returned (.bool true) ∧ Below w.heap.size w w') := by
  obtain ⟨R, hR⟩ : ∃ R : Ending → World → Prop, R = (fun e w' => e = .returned (.bool true) ∧ Below w.heap.size w w') := ⟨_, rfl⟩
  rw [← hR]
  refine GoS.enter (n := 79) Tryd.func3 (by kernel_rfl) rfl [(0, .int .i64 a), (1, .int .i64 b), (2, .string (sb s)), (3, .string (sb t)), (4, .string (sb x)), (5, .string (sb y))] (by kernel_rfl) (by kernel_rfl) ?_
  have hM0 := Mem.start w
  refine GoS.run [0, 1, 2, 3, 4, 5, 13, 16] [.n, .n, .n, .n, .n, .n, .n, .n, .n, .n, .n, .n, .n, .n, .n] _ [.code (csub (cd Tryd.f3) [1,1,0,1]), .code (csub (cd Tryd.f3) [1,1,1])] [(0, .int .i64 a), (1, .int .i64 b), (2, .string (sb s)), (3, .string (sb t)), (4, .string (sb x)), (5, .string (sb y)), (13, .int .i64 0), (16, .bool (decide (a < b)))] w (by kernel_rfl) .nil ?_
  refine GoS.cond (decide (a < b)) [.code (csub (cd Tryd.f3) [1,1,0,1,0]), .code (csub (cd Tryd.f3) [1,1,1])] [.code (csub (cd Tryd.f3) [1,1,0,1,1]), .code (csub (cd Tryd.f3) [1,1,1])] (by kernel_rfl) (fun h1 => ?_) (fun h1 => ?_)
  ·
    have h1p : a < b := of_decide_eq_true h1
    refine GoS.run [0, 1, 2, 3, 4, 5, 13] [.n, .n, .n] _ [.code (csub (cd Tryd.f3) [1,1,1])] [(0, .int .i64 a), (1, .int .i64 b), (2, .string (sb s)), (3, .string (sb t)), (4, .string (sb x)), (5, .string (sb y)), (13, .int .i64 (-1))] w (by kernel_rfl) .nil ?_
    refine GoS.run [0, 1, 2, 3, 4, 5, 13, 19] [.n, .n, .n, .n, .n, .n, .n] _ [.code (csub (cd Tryd.f3) [1,1,1,0,1]), .code (csub (cd Tryd.f3) [1,1,1,1])] [(0, .int .i64 a), (1, .int .i64 b), (2, .string (sb s)), (3, .string (sb t)), (4, .string (sb x)), (5, .string (sb y)), (13, .int .i64 (-1)), (19, .bool (decide (a > b)))] w (by kernel_rfl) .nil ?_
    refine GoS.cond (decide (a > b)) [.code (csub (cd Tryd.f3) [1,1,1,0,1,0]), .code (csub (cd Tryd.f3) [1,1,1,1])] [.code (csub (cd Tryd.f3) [1,1,1,0,1,1]), .code (csub (cd Tryd.f3) [1,1,1,1])] (by kernel_rfl) (fun h2 => ?_) (fun h2 => ?_)
    ·
      have h2p : a > b := of_decide_eq_true h2
      refine GoS.run [0, 1, 2, 3, 4, 5, 13] [.n, .n, .n] _ [.code (csub (cd Tryd.f3) [1,1,1,1])] [(0, .int .i64 a), (1, .int .i64 b), (2, .string (sb s)), (3, .string (sb t)), (4, .string (sb x)), (5, .string (sb y)), (13, .int .i64 1)] w (by kernel_rfl) .nil ?_
      refine GoS.run [0, 1, 2, 3, 4, 5, 13] [.n, .n, .n] _ [.inRegion (cops (csub (cd Tryd.f3) [1,1,1,1,0,0])) [0,1,2,3,4,5,6,7,8,9,10,11,12,13,14,15,16,17,18,19,20,21,22,23], .code (csub (cd Tryd.f3) [1,1,1,1,0,1]), .code (csub (cd Tryd.f3) [1,1,1,1,1])] [(0, .int .i64 a), (1, .int .i64 b), (2, .string (sb s)), (3, .string (sb t)), (4, .string (sb x)), (5, .string (sb y)), (13, .int .i64 1)] w (by kernel_rfl) .nil ?_
      refine GoS.call [0, 1, 2, 3, 4, 5, 13] 8 #[] (some 20) [.inRegion (cops (csub (cd Tryd.f3) [1,1,1,1,0,0])) [1,2,3,4,5,6,7,8,9,10,11,12,13,14,15,16,17,18,19,20,21,22,23], .code (csub (cd Tryd.f3) [1,1,1,1,0,1]), .code (csub (cd Tryd.f3) [1,1,1,1,1])] [(0, .int .i64 a), (1, .int .i64 b), (2, .string (sb s)), (3, .string (sb t)), (4, .string (sb x)), (5, .string (sb y)), (13, .int .i64 1)] (by kernel_rfl) (awake_c w) ?_
      rintro _ w3 ⟨rfl, m4⟩
      refine ⟨_, rfl, ?_⟩
      have hM5 := Mem.join hM0 m4
      obtain ⟨v6, w7, hr8, hM9⟩ := m_lit sT28 hM5 (n := 1) (parts := #[(0, .int .i64 a)]) (cs := [.int .i64 a]) (by decide) (by kernel_rfl) rfl
      have o10 : (Instr.buildSlice 28 1 #[(0, .int .i64 a)]).run Tryd.prog w3 = .ok v6 w7 := hr8
      refine GoS.run [0, 1, 2, 3, 4, 5, 13, 22, 24] [.n, .n, .n, .u (v6) (w7)] _ [.inRegion (cops (csub (cd Tryd.f3) [1,1,1,1,0,0])) [5,6,7,8,9,10,11,12,13,14,15,16,17,18,19,20,21,22,23], .code (csub (cd Tryd.f3) [1,1,1,1,0,1]), .code (csub (cd Tryd.f3) [1,1,1,1,1])] [(0, .int .i64 a), (1, .int .i64 b), (2, .string (sb s)), (3, .string (sb t)), (4, .string (sb x)), (5, .string (sb y)), (13, .int .i64 1), (22, .bool false), (24, v6)] w7 (by kernel_rfl) (.cons o10 .nil) ?_
      refine GoS.call [0, 1, 2, 3, 4, 5, 13, 22] 10 #[v6] (some 25) [.inRegion (cops (csub (cd Tryd.f3) [1,1,1,1,0,0])) [6,7,8,9,10,11,12,13,14,15,16,17,18,19,20,21,22,23], .code (csub (cd Tryd.f3) [1,1,1,1,0,1]), .code (csub (cd Tryd.f3) [1,1,1,1,1])] [(0, .int .i64 a), (1, .int .i64 b), (2, .string (sb s)), (3, .string (sb t)), (4, .string (sb x)), (5, .string (sb y)), (13, .int .i64 1), (22, .bool false)] (by kernel_rfl) (nums1_c v6 a (by omega) w7 (hM9.rd 0 rfl)) ?_
      rintro _ w11 ⟨rfl, m12⟩
      refine ⟨_, rfl, ?_⟩
      have hM13 := Mem.join hM9 m12
      obtain ⟨v14, w15, hr16, hM17⟩ := m_lit sT28 hM13 (n := 1) (parts := #[(0, .int .i64 b)]) (cs := [.int .i64 b]) (by decide) (by kernel_rfl) rfl
      have o18 : (Instr.buildSlice 28 1 #[(0, .int .i64 b)]).run Tryd.prog w11 = .ok v14 w15 := hr16
      have hM19 : Mem [] w w15 [⟨3, 1, v14, 1, [.int .i64 b]⟩] := hM17.sub (List.Sublist.cons_cons _ (List.Sublist.cons _ (List.Sublist.refl _)))
      refine GoS.run [0, 1, 2, 3, 4, 5, 13, 22, 25, 27] [.n, .u (v14) (w15)] _ [.inRegion (cops (csub (cd Tryd.f3) [1,1,1,1,0,0])) [8,9,10,11,12,13,14,15,16,17,18,19,20,21,22,23], .code (csub (cd Tryd.f3) [1,1,1,1,0,1]), .code (csub (cd Tryd.f3) [1,1,1,1,1])] [(0, .int .i64 a), (1, .int .i64 b), (2, .string (sb s)), (3, .string (sb t)), (4, .string (sb x)), (5, .string (sb y)), (13, .int .i64 1), (22, .bool false), (25, .string (sb (nb a))), (27, v14)] w15 (by kernel_rfl) (.cons o18 .nil) ?_
      refine GoS.call [0, 1, 2, 3, 4, 5, 13, 22, 25] 10 #[v14] (some 28) [.inRegion (cops (csub (cd Tryd.f3) [1,1,1,1,0,0])) [9,10,11,12,13,14,15,16,17,18,19,20,21,22,23], .code (csub (cd Tryd.f3) [1,1,1,1,0,1]), .code (csub (cd Tryd.f3) [1,1,1,1,1])] [(0, .int .i64 a), (1, .int .i64 b), (2, .string (sb s)), (3, .string (sb t)), (4, .string (sb x)), (5, .string (sb y)), (13, .int .i64 1), (22, .bool false), (25, .string (sb (nb a)))] (by kernel_rfl) (nums1_c v14 b (by omega) w15 (hM19.rd 0 rfl)) ?_
      rintro _ w20 ⟨rfl, m21⟩
      refine ⟨_, rfl, ?_⟩
      have hM22 := Mem.join hM19 m21
      refine GoS.call [0, 1, 2, 3, 4, 5, 13, 22] 9 #[.string (sb (nb a)), .string (sb (nb b))] (some 29) [.inRegion (cops (csub (cd Tryd.f3) [1,1,1,1,0,0])) [10,11,12,13,14,15,16,17,18,19,20,21,22,23], .code (csub (cd Tryd.f3) [1,1,1,1,0,1]), .code (csub (cd Tryd.f3) [1,1,1,1,1])] [(0, .int .i64 a), (1, .int .i64 b), (2, .string (sb s)), (3, .string (sb t)), (4, .string (sb x)), (5, .string (sb y)), (13, .int .i64 1), (22, .bool false)] (by kernel_rfl) (stands_c (nb a) (nb b) w20) ?_
      rintro _ _ ⟨rfl, rfl⟩
      refine ⟨_, rfl, ?_⟩
      have o23 : (IntKind.i64 = IntKind.i64) ∧ w20 = w20 ∧ Value.bool false = .bool ((cmpT (nb a) (nb b)) != 1) := ⟨rfl, rfl, congrArg Value.bool (Eq.symm (bne_eq_false_iff_eq.2 (by rw [num_cmp0 ha hb]; unfold cmpI; split <;> first | omega | (split <;> omega))))⟩
      have hM24 : Mem [] w w20 [] := hM22.sub (List.Sublist.cons _ (List.Sublist.refl _))
      refine GoS.run [0, 1, 2, 3, 4, 5, 13, 33, 34] [.n, .h (.bool false), .n, .n, .n] _ [.inRegion (cops (csub (cd Tryd.f3) [1,1,1,1,0,0])) [15,16,17,18,19,20,21,22,23], .code (csub (cd Tryd.f3) [1,1,1,1,0,1]), .code (csub (cd Tryd.f3) [1,1,1,1,1])] [(0, .int .i64 a), (1, .int .i64 b), (2, .string (sb s)), (3, .string (sb t)), (4, .string (sb x)), (5, .string (sb y)), (13, .int .i64 1), (33, .bool false), (34, .string (sb s))] w20 (by kernel_rfl) (.cons o23 .nil) ?_
      refine GoS.call [0, 1, 2, 3, 4, 5, 13, 33] 11 #[.string (sb s)] (some 35) [.inRegion (cops (csub (cd Tryd.f3) [1,1,1,1,0,0])) [16,17,18,19,20,21,22,23], .code (csub (cd Tryd.f3) [1,1,1,1,0,1]), .code (csub (cd Tryd.f3) [1,1,1,1,1])] [(0, .int .i64 a), (1, .int .i64 b), (2, .string (sb s)), (3, .string (sb t)), (4, .string (sb x)), (5, .string (sb y)), (13, .int .i64 1), (33, .bool false)] (by kernel_rfl) (text_c s (by omega) w20) ?_
      rintro _ w25 ⟨rfl, m26⟩
      refine ⟨_, rfl, ?_⟩
      have hM27 := Mem.join hM24 m26
      refine GoS.run [0, 1, 2, 3, 4, 5, 13, 33, 35, 36] [.n] _ [.inRegion (cops (csub (cd Tryd.f3) [1,1,1,1,0,0])) [17,18,19,20,21,22,23], .code (csub (cd Tryd.f3) [1,1,1,1,0,1]), .code (csub (cd Tryd.f3) [1,1,1,1,1])] [(0, .int .i64 a), (1, .int .i64 b), (2, .string (sb s)), (3, .string (sb t)), (4, .string (sb x)), (5, .string (sb y)), (13, .int .i64 1), (33, .bool false), (35, .string (sb (textB s))), (36, .string (sb t))] w25 (by kernel_rfl) .nil ?_
      refine GoS.call [0, 1, 2, 3, 4, 5, 13, 33, 35] 11 #[.string (sb t)] (some 37) [.inRegion (cops (csub (cd Tryd.f3) [1,1,1,1,0,0])) [18,19,20,21,22,23], .code (csub (cd Tryd.f3) [1,1,1,1,0,1]), .code (csub (cd Tryd.f3) [1,1,1,1,1])] [(0, .int .i64 a), (1, .int .i64 b), (2, .string (sb s)), (3, .string (sb t)), (4, .string (sb x)), (5, .string (sb y)), (13, .int .i64 1), (33, .bool false), (35, .string (sb (textB s)))] (by kernel_rfl) (text_c t (by omega) w25) ?_
      rintro _ w28 ⟨rfl, m29⟩
      refine ⟨_, rfl, ?_⟩
      have hM30 := Mem.join hM27 m29
      refine GoS.call [0, 1, 2, 3, 4, 5, 13, 33] 9 #[.string (sb (textB s)), .string (sb (textB t))] (some 38) [.inRegion (cops (csub (cd Tryd.f3) [1,1,1,1,0,0])) [19,20,21,22,23], .code (csub (cd Tryd.f3) [1,1,1,1,0,1]), .code (csub (cd Tryd.f3) [1,1,1,1,1])] [(0, .int .i64 a), (1, .int .i64 b), (2, .string (sb s)), (3, .string (sb t)), (4, .string (sb x)), (5, .string (sb y)), (13, .int .i64 1), (33, .bool false)] (by kernel_rfl) (stands_c (textB s) (textB t) w28) ?_
      rintro _ _ ⟨rfl, rfl⟩
      refine ⟨_, rfl, ?_⟩
      refine GoS.run [0, 1, 2, 3, 4, 5, 13, 33, 38, 39, 40] [.n, .n] _ [.inRegion (cops (csub (cd Tryd.f3) [1,1,1,1,0,0])) [21,22,23], .code (csub (cd Tryd.f3) [1,1,1,1,0,1]), .code (csub (cd Tryd.f3) [1,1,1,1,1])] [(0, .int .i64 a), (1, .int .i64 b), (2, .string (sb s)), (3, .string (sb t)), (4, .string (sb x)), (5, .string (sb y)), (13, .int .i64 1), (33, .bool false), (38, .int .i64 (cmpT (textB s) (textB t))), (39, .string (sb s)), (40, .string (sb t))] w28 (by kernel_rfl) .nil ?_
      refine GoS.call [0, 1, 2, 3, 4, 5, 13, 33, 38] 9 #[.string (sb s), .string (sb t)] (some 41) [.inRegion (cops (csub (cd Tryd.f3) [1,1,1,1,0,0])) [22,23], .code (csub (cd Tryd.f3) [1,1,1,1,0,1]), .code (csub (cd Tryd.f3) [1,1,1,1,1])] [(0, .int .i64 a), (1, .int .i64 b), (2, .string (sb s)), (3, .string (sb t)), (4, .string (sb x)), (5, .string (sb y)), (13, .int .i64 1), (33, .bool false), (38, .int .i64 (cmpT (textB s) (textB t)))] (by kernel_rfl) (stands_c s t w28) ?_
      rintro _ _ ⟨rfl, rfl⟩
      refine ⟨_, rfl, ?_⟩
      have o35 : (IntKind.i64 = IntKind.i64) ∧ w28 = w28 ∧ Value.bool false = .bool ((cmpT (textB s) (textB t)) != (cmpT s t)) := ⟨rfl, rfl, congrArg Value.bool (Eq.symm (bne_eq_false_iff_eq.2 (text_cmp0 _ _)))⟩
      obtain ⟨v31, w32, hr33, hM34⟩ := m_lit sT28 hM30 (n := 1) (parts := #[(0, .int .i64 a)]) (cs := [.int .i64 a]) (by decide) (by kernel_rfl) rfl
      have o36 : (Instr.buildSlice 28 1 #[(0, .int .i64 a)]).run Tryd.prog w28 = .ok v31 w32 := hr33
      refine GoS.run [1, 2, 3, 4, 5, 13, 46, 48] [.h (.bool false), .n, .n, .n, .n, .n, .n, .n, .n, .n, .n, .n, .u (v31) (w32)] _ [.inRegion (cops (csub (cd Tryd.f3) [1,1,1,1,1,0,0])) [5,6,7,8,9,10,11,12,13,14,15,16], .code (csub (cd Tryd.f3) [1,1,1,1,1,0,1]), .code (csub (cd Tryd.f3) [1,1,1,1,1,1])] [(1, .int .i64 b), (2, .string (sb s)), (3, .string (sb t)), (4, .string (sb x)), (5, .string (sb y)), (13, .int .i64 1), (46, .bool true), (48, v31)] w32 (by kernel_rfl) (.cons o35 (.cons o36 .nil)) ?_
      refine GoS.call [1, 2, 3, 4, 5, 13, 46] 10 #[v31] (some 49) [.inRegion (cops (csub (cd Tryd.f3) [1,1,1,1,1,0,0])) [6,7,8,9,10,11,12,13,14,15,16], .code (csub (cd Tryd.f3) [1,1,1,1,1,0,1]), .code (csub (cd Tryd.f3) [1,1,1,1,1,1])] [(1, .int .i64 b), (2, .string (sb s)), (3, .string (sb t)), (4, .string (sb x)), (5, .string (sb y)), (13, .int .i64 1), (46, .bool true)] (by kernel_rfl) (nums1_c v31 a (by omega) w32 (hM34.rd 0 rfl)) ?_
      rintro _ w37 ⟨rfl, m38⟩
      refine ⟨_, rfl, ?_⟩
      have hM39 := Mem.join hM34 m38
      have o44 : (binOp .add 9 (.string (sb (nb a))) (.string (sb x))).run Tryd.prog w37 = .ok (.string (sb ((nb a) ++ x))) w37 := f_stradd (by have q1 := numB_len a; have q2 := numB_len b; have q3 := textB_len s; have q4 := textB_len t; first | omega | (rw [bytesOf_len']; omega))
      obtain ⟨v40, w41, hr42, hM43⟩ := m_lit sT28 hM39 (n := 1) (parts := #[(0, .int .i64 b)]) (cs := [.int .i64 b]) (by decide) (by kernel_rfl) rfl
      have o45 : (Instr.buildSlice 28 1 #[(0, .int .i64 b)]).run Tryd.prog w37 = .ok v40 w41 := hr42
      have hM46 : Mem [] w w41 [⟨3, 1, v40, 1, [.int .i64 b]⟩] := hM43.sub (List.Sublist.cons_cons _ (List.Sublist.cons _ (List.Sublist.refl _)))
      refine GoS.run [2, 3, 4, 5, 13, 46, 51, 53] [.n, .h (.string (sb ((nb a) ++ x))), .n, .u (v40) (w41)] _ [.inRegion (cops (csub (cd Tryd.f3) [1,1,1,1,1,0,0])) [10,11,12,13,14,15,16], .code (csub (cd Tryd.f3) [1,1,1,1,1,0,1]), .code (csub (cd Tryd.f3) [1,1,1,1,1,1])] [(2, .string (sb s)), (3, .string (sb t)), (4, .string (sb x)), (5, .string (sb y)), (13, .int .i64 1), (46, .bool true), (51, .string (sb ((nb a) ++ x))), (53, v40)] w41 (by kernel_rfl) (.cons o44 (.cons o45 .nil)) ?_
      refine GoS.call [2, 3, 4, 5, 13, 46, 51] 10 #[v40] (some 54) [.inRegion (cops (csub (cd Tryd.f3) [1,1,1,1,1,0,0])) [11,12,13,14,15,16], .code (csub (cd Tryd.f3) [1,1,1,1,1,0,1]), .code (csub (cd Tryd.f3) [1,1,1,1,1,1])] [(2, .string (sb s)), (3, .string (sb t)), (4, .string (sb x)), (5, .string (sb y)), (13, .int .i64 1), (46, .bool true), (51, .string (sb ((nb a) ++ x)))] (by kernel_rfl) (nums1_c v40 b (by omega) w41 (hM46.rd 0 rfl)) ?_
      rintro _ w47 ⟨rfl, m48⟩
      refine ⟨_, rfl, ?_⟩
      have hM49 := Mem.join hM46 m48
      have o50 : (binOp .add 9 (.string (sb (nb b))) (.string (sb y))).run Tryd.prog w47 = .ok (.string (sb ((nb b) ++ y))) w47 := f_stradd (by have q1 := numB_len a; have q2 := numB_len b; have q3 := textB_len s; have q4 := textB_len t; first | omega | (rw [bytesOf_len']; omega))
      have hM51 : Mem [] w w47 [] := hM49.sub (List.Sublist.cons _ (List.Sublist.refl _))
      refine GoS.run [2, 3, 4, 5, 13, 46, 51, 56] [.n, .h (.string (sb ((nb b) ++ y)))] _ [.inRegion (cops (csub (cd Tryd.f3) [1,1,1,1,1,0,0])) [13,14,15,16], .code (csub (cd Tryd.f3) [1,1,1,1,1,0,1]), .code (csub (cd Tryd.f3) [1,1,1,1,1,1])] [(2, .string (sb s)), (3, .string (sb t)), (4, .string (sb x)), (5, .string (sb y)), (13, .int .i64 1), (46, .bool true), (51, .string (sb ((nb a) ++ x))), (56, .string (sb ((nb b) ++ y)))] w47 (by kernel_rfl) (.cons o50 .nil) ?_
      refine GoS.call [2, 3, 4, 5, 13, 46] 9 #[.string (sb ((nb a) ++ x)), .string (sb ((nb b) ++ y))] (some 57) [.inRegion (cops (csub (cd Tryd.f3) [1,1,1,1,1,0,0])) [14,15,16], .code (csub (cd Tryd.f3) [1,1,1,1,1,0,1]), .code (csub (cd Tryd.f3) [1,1,1,1,1,1])] [(2, .string (sb s)), (3, .string (sb t)), (4, .string (sb x)), (5, .string (sb y)), (13, .int .i64 1), (46, .bool true)] (by kernel_rfl) (stands_c ((nb a) ++ x) ((nb b) ++ y) w47) ?_
      rintro _ _ ⟨rfl, rfl⟩
      refine ⟨_, rfl, ?_⟩
      have o52 : (IntKind.i64 = IntKind.i64) ∧ w47 = w47 ∧ Value.bool false = .bool ((cmpT ((nb a) ++ x) ((nb b) ++ y)) != 1) := ⟨rfl, rfl, congrArg Value.bool (Eq.symm (bne_eq_false_iff_eq.2 (by rw [num_cmp ha hb (by omega) _ _]; unfold cmpI; split <;> first | omega | (split <;> omega))))⟩
      have o53 : (binOp .eql 9 (.string (sb s)) (.string (sb t))).run Tryd.prog w47 = .ok (.bool (decide (s = t))) w47 := f_streq
      refine GoS.run [2, 3, 4, 5, 64] [.n, .h (.bool false), .n, .n, .n, .n, .n, .n, .n, .n, .h (.bool (decide (s = t))), .n] _ [.inRegion (cops (csub (cd Tryd.f3) [1,1,1,1,1,1,0])) [4,5,6,7,8,9,10,11,12,13,14,15,16,17,18], .code (csub (cd Tryd.f3) [1,1,1,1,1,1,1])] [(2, .string (sb s)), (3, .string (sb t)), (4, .string (sb x)), (5, .string (sb y)), (64, .bool (decide (s = t)))] w47 (by kernel_rfl) (.cons o52 (.cons o53 .nil)) ?_
      refine GoS.fork 64 (decide (s = t)) (by kernel_rfl) (fun h54 => ?_) (fun h54 => ?_)
      ·
        have h54p : s = t := of_decide_eq_true h54
        refine GoS.run [12] [.n, .n, .n, .n, .n, .n, .n, .n, .n, .n, .n, .n, .n, .n, .n] _ [.inRegion (cops (csub (cd Tryd.f3) [1,1,1,1,1,1,0])) [], .code (csub (cd Tryd.f3) [1,1,1,1,1,1,1])] [(12, .bool true)] w47 (by kernel_rfl) .nil ?_
        refine GoS.run [12] [.n] _ [.code (csub (cd Tryd.f3) [1,1,1,1,1,1,1])] [(12, .bool true)] w47 (by kernel_rfl) .nil ?_
        refine GoS.ret (fn := Tryd.f3) (v := (.bool true)) Tryd.func3 (by kernel_rfl) ?_
        rw [hR]
        exact ⟨rfl, (hM51.sub (List.nil_sublist _)).below⟩
      ·
        have h54p : ¬ (s = t) := of_decide_eq_false h54
        refine GoS.run [2, 3, 4, 5, 64, 65] [.n] _ [.inRegion (cops (csub (cd Tryd.f3) [1,1,1,1,1,1,0])) [5,6,7,8,9,10,11,12,13,14,15,16,17,18], .code (csub (cd Tryd.f3) [1,1,1,1,1,1,1])] [(2, .string (sb s)), (3, .string (sb t)), (4, .string (sb x)), (5, .string (sb y)), (64, .bool false), (65, .string (sb s))] w47 (by kernel_rfl) .nil ?_
        refine GoS.call [2, 3, 4, 5, 64] 11 #[.string (sb s)] (some 66) [.inRegion (cops (csub (cd Tryd.f3) [1,1,1,1,1,1,0])) [6,7,8,9,10,11,12,13,14,15,16,17,18], .code (csub (cd Tryd.f3) [1,1,1,1,1,1,1])] [(2, .string (sb s)), (3, .string (sb t)), (4, .string (sb x)), (5, .string (sb y)), (64, .bool false)] (by kernel_rfl) (text_c s (by omega) w47) ?_
        rintro _ w55 ⟨rfl, m56⟩
        refine ⟨_, rfl, ?_⟩
        have hM57 := Mem.join hM51 m56
        have o58 : (binOp .add 9 (.string (sb (textB s))) (.string (sb x))).run Tryd.prog w55 = .ok (.string (sb ((textB s) ++ x))) w55 := f_stradd (by have q1 := numB_len a; have q2 := numB_len b; have q3 := textB_len s; have q4 := textB_len t; first | omega | (rw [bytesOf_len']; omega))
        refine GoS.run [2, 3, 5, 64, 68, 69] [.n, .h (.string (sb ((textB s) ++ x))), .n] _ [.inRegion (cops (csub (cd Tryd.f3) [1,1,1,1,1,1,0])) [9,10,11,12,13,14,15,16,17,18], .code (csub (cd Tryd.f3) [1,1,1,1,1,1,1])] [(2, .string (sb s)), (3, .string (sb t)), (5, .string (sb y)), (64, .bool false), (68, .string (sb ((textB s) ++ x))), (69, .string (sb t))] w55 (by kernel_rfl) (.cons o58 .nil) ?_
        refine GoS.call [2, 3, 5, 64, 68] 11 #[.string (sb t)] (some 70) [.inRegion (cops (csub (cd Tryd.f3) [1,1,1,1,1,1,0])) [10,11,12,13,14,15,16,17,18], .code (csub (cd Tryd.f3) [1,1,1,1,1,1,1])] [(2, .string (sb s)), (3, .string (sb t)), (5, .string (sb y)), (64, .bool false), (68, .string (sb ((textB s) ++ x)))] (by kernel_rfl) (text_c t (by omega) w55) ?_
        rintro _ w59 ⟨rfl, m60⟩
        refine ⟨_, rfl, ?_⟩
        have hM61 := Mem.join hM57 m60
        have o62 : (binOp .add 9 (.string (sb (textB t))) (.string (sb y))).run Tryd.prog w59 = .ok (.string (sb ((textB t) ++ y))) w59 := f_stradd (by have q1 := numB_len a; have q2 := numB_len b; have q3 := textB_len s; have q4 := textB_len t; first | omega | (rw [bytesOf_len']; omega))
        refine GoS.run [2, 3, 64, 68, 72] [.n, .h (.string (sb ((textB t) ++ y)))] _ [.inRegion (cops (csub (cd Tryd.f3) [1,1,1,1,1,1,0])) [12,13,14,15,16,17,18], .code (csub (cd Tryd.f3) [1,1,1,1,1,1,1])] [(2, .string (sb s)), (3, .string (sb t)), (64, .bool false), (68, .string (sb ((textB s) ++ x))), (72, .string (sb ((textB t) ++ y)))] w59 (by kernel_rfl) (.cons o62 .nil) ?_
        refine GoS.call [2, 3, 64] 9 #[.string (sb ((textB s) ++ x)), .string (sb ((textB t) ++ y))] (some 73) [.inRegion (cops (csub (cd Tryd.f3) [1,1,1,1,1,1,0])) [13,14,15,16,17,18], .code (csub (cd Tryd.f3) [1,1,1,1,1,1,1])] [(2, .string (sb s)), (3, .string (sb t)), (64, .bool false)] (by kernel_rfl) (stands_c ((textB s) ++ x) ((textB t) ++ y) w59) ?_
        rintro _ _ ⟨rfl, rfl⟩
        refine ⟨_, rfl, ?_⟩
        refine GoS.run [64, 73, 74, 75] [.n, .n] _ [.inRegion (cops (csub (cd Tryd.f3) [1,1,1,1,1,1,0])) [15,16,17,18], .code (csub (cd Tryd.f3) [1,1,1,1,1,1,1])] [(64, .bool false), (73, .int .i64 (cmpT ((textB s) ++ x) ((textB t) ++ y))), (74, .string (sb s)), (75, .string (sb t))] w59 (by kernel_rfl) .nil ?_
        refine GoS.call [64, 73] 9 #[.string (sb s), .string (sb t)] (some 76) [.inRegion (cops (csub (cd Tryd.f3) [1,1,1,1,1,1,0])) [16,17,18], .code (csub (cd Tryd.f3) [1,1,1,1,1,1,1])] [(64, .bool false), (73, .int .i64 (cmpT ((textB s) ++ x) ((textB t) ++ y)))] (by kernel_rfl) (stands_c s t w59) ?_
        rintro _ _ ⟨rfl, rfl⟩
        refine ⟨_, rfl, ?_⟩
        have o63 : (IntKind.i64 = IntKind.i64) ∧ w59 = w59 ∧ Value.bool true = .bool ((cmpT ((textB s) ++ x) ((textB t) ++ y)) == (cmpT s t)) := ⟨rfl, rfl, congrArg Value.bool (Eq.symm (beq_iff_eq.2 (text_cmp (by assumption) _ _)))⟩
        refine GoS.run [12] [.h (.bool true), .n, .n] _ [.inRegion (cops (csub (cd Tryd.f3) [1,1,1,1,1,1,0])) [], .code (csub (cd Tryd.f3) [1,1,1,1,1,1,1])] [(12, .bool true)] w59 (by kernel_rfl) (.cons o63 .nil) ?_
        refine GoS.run [12] [.n] _ [.code (csub (cd Tryd.f3) [1,1,1,1,1,1,1])] [(12, .bool true)] w59 (by kernel_rfl) .nil ?_
        refine GoS.ret (fn := Tryd.f3) (v := (.bool true)) Tryd.func3 (by kernel_rfl) ?_
        rw [hR]
        exact ⟨rfl, (hM61.sub (List.nil_sublist _)).below⟩
    ·
      have h2p : ¬ (a > b) := of_decide_eq_false h2
      refine GoS.run [0, 1, 2, 3, 4, 5, 13] [.n] _ [.code (csub (cd Tryd.f3) [1,1,1,1])] [(0, .int .i64 a), (1, .int .i64 b), (2, .string (sb s)), (3, .string (sb t)), (4, .string (sb x)), (5, .string (sb y)), (13, .int .i64 (-1))] w (by kernel_rfl) .nil ?_
      refine GoS.run [0, 1, 2, 3, 4, 5, 13] [.n, .n, .n] _ [.inRegion (cops (csub (cd Tryd.f3) [1,1,1,1,0,0])) [0,1,2,3,4,5,6,7,8,9,10,11,12,13,14,15,16,17,18,19,20,21,22,23], .code (csub (cd Tryd.f3) [1,1,1,1,0,1]), .code (csub (cd Tryd.f3) [1,1,1,1,1])] [(0, .int .i64 a), (1, .int .i64 b), (2, .string (sb s)), (3, .string (sb t)), (4, .string (sb x)), (5, .string (sb y)), (13, .int .i64 (-1))] w (by kernel_rfl) .nil ?_
      refine GoS.call [0, 1, 2, 3, 4, 5, 13] 8 #[] (some 20) [.inRegion (cops (csub (cd Tryd.f3) [1,1,1,1,0,0])) [1,2,3,4,5,6,7,8,9,10,11,12,13,14,15,16,17,18,19,20,21,22,23], .code (csub (cd Tryd.f3) [1,1,1,1,0,1]), .code (csub (cd Tryd.f3) [1,1,1,1,1])] [(0, .int .i64 a), (1, .int .i64 b), (2, .string (sb s)), (3, .string (sb t)), (4, .string (sb x)), (5, .string (sb y)), (13, .int .i64 (-1))] (by kernel_rfl) (awake_c w) ?_
      rintro _ w64 ⟨rfl, m65⟩
      refine ⟨_, rfl, ?_⟩
      have hM66 := Mem.join hM0 m65
      obtain ⟨v67, w68, hr69, hM70⟩ := m_lit sT28 hM66 (n := 1) (parts := #[(0, .int .i64 a)]) (cs := [.int .i64 a]) (by decide) (by kernel_rfl) rfl
      have o71 : (Instr.buildSlice 28 1 #[(0, .int .i64 a)]).run Tryd.prog w64 = .ok v67 w68 := hr69
      refine GoS.run [0, 1, 2, 3, 4, 5, 13, 22, 24] [.n, .n, .n, .u (v67) (w68)] _ [.inRegion (cops (csub (cd Tryd.f3) [1,1,1,1,0,0])) [5,6,7,8,9,10,11,12,13,14,15,16,17,18,19,20,21,22,23], .code (csub (cd Tryd.f3) [1,1,1,1,0,1]), .code (csub (cd Tryd.f3) [1,1,1,1,1])] [(0, .int .i64 a), (1, .int .i64 b), (2, .string (sb s)), (3, .string (sb t)), (4, .string (sb x)), (5, .string (sb y)), (13, .int .i64 (-1)), (22, .bool false), (24, v67)] w68 (by kernel_rfl) (.cons o71 .nil) ?_
      refine GoS.call [0, 1, 2, 3, 4, 5, 13, 22] 10 #[v67] (some 25) [.inRegion (cops (csub (cd Tryd.f3) [1,1,1,1,0,0])) [6,7,8,9,10,11,12,13,14,15,16,17,18,19,20,21,22,23], .code (csub (cd Tryd.f3) [1,1,1,1,0,1]), .code (csub (cd Tryd.f3) [1,1,1,1,1])] [(0, .int .i64 a), (1, .int .i64 b), (2, .string (sb s)), (3, .string (sb t)), (4, .string (sb x)), (5, .string (sb y)), (13, .int .i64 (-1)), (22, .bool false)] (by kernel_rfl) (nums1_c v67 a (by omega) w68 (hM70.rd 0 rfl)) ?_
      rintro _ w72 ⟨rfl, m73⟩
      refine ⟨_, rfl, ?_⟩
      have hM74 := Mem.join hM70 m73
      obtain ⟨v75, w76, hr77, hM78⟩ := m_lit sT28 hM74 (n := 1) (parts := #[(0, .int .i64 b)]) (cs := [.int .i64 b]) (by decide) (by kernel_rfl) rfl
      have o79 : (Instr.buildSlice 28 1 #[(0, .int .i64 b)]).run Tryd.prog w72 = .ok v75 w76 := hr77
      have hM80 : Mem [] w w76 [⟨3, 1, v75, 1, [.int .i64 b]⟩] := hM78.sub (List.Sublist.cons_cons _ (List.Sublist.cons _ (List.Sublist.refl _)))
      refine GoS.run [0, 1, 2, 3, 4, 5, 13, 22, 25, 27] [.n, .u (v75) (w76)] _ [.inRegion (cops (csub (cd Tryd.f3) [1,1,1,1,0,0])) [8,9,10,11,12,13,14,15,16,17,18,19,20,21,22,23], .code (csub (cd Tryd.f3) [1,1,1,1,0,1]), .code (csub (cd Tryd.f3) [1,1,1,1,1])] [(0, .int .i64 a), (1, .int .i64 b), (2, .string (sb s)), (3, .string (sb t)), (4, .string (sb x)), (5, .string (sb y)), (13, .int .i64 (-1)), (22, .bool false), (25, .string (sb (nb a))), (27, v75)] w76 (by kernel_rfl) (.cons o79 .nil) ?_
      refine GoS.call [0, 1, 2, 3, 4, 5, 13, 22, 25] 10 #[v75] (some 28) [.inRegion (cops (csub (cd Tryd.f3) [1,1,1,1,0,0])) [9,10,11,12,13,14,15,16,17,18,19,20,21,22,23], .code (csub (cd Tryd.f3) [1,1,1,1,0,1]), .code (csub (cd Tryd.f3) [1,1,1,1,1])] [(0, .int .i64 a), (1, .int .i64 b), (2, .string (sb s)), (3, .string (sb t)), (4, .string (sb x)), (5, .string (sb y)), (13, .int .i64 (-1)), (22, .bool false), (25, .string (sb (nb a)))] (by kernel_rfl) (nums1_c v75 b (by omega) w76 (hM80.rd 0 rfl)) ?_
      rintro _ w81 ⟨rfl, m82⟩
      refine ⟨_, rfl, ?_⟩
      have hM83 := Mem.join hM80 m82
      refine GoS.call [0, 1, 2, 3, 4, 5, 13, 22] 9 #[.string (sb (nb a)), .string (sb (nb b))] (some 29) [.inRegion (cops (csub (cd Tryd.f3) [1,1,1,1,0,0])) [10,11,12,13,14,15,16,17,18,19,20,21,22,23], .code (csub (cd Tryd.f3) [1,1,1,1,0,1]), .code (csub (cd Tryd.f3) [1,1,1,1,1])] [(0, .int .i64 a), (1, .int .i64 b), (2, .string (sb s)), (3, .string (sb t)), (4, .string (sb x)), (5, .string (sb y)), (13, .int .i64 (-1)), (22, .bool false)] (by kernel_rfl) (stands_c (nb a) (nb b) w81) ?_
      rintro _ _ ⟨rfl, rfl⟩
      refine ⟨_, rfl, ?_⟩
      have o84 : (IntKind.i64 = IntKind.i64) ∧ w81 = w81 ∧ Value.bool false = .bool ((cmpT (nb a) (nb b)) != (-1)) := ⟨rfl, rfl, congrArg Value.bool (Eq.symm (bne_eq_false_iff_eq.2 (by rw [num_cmp0 ha hb]; unfold cmpI; split <;> first | omega | (split <;> omega))))⟩
      have hM85 : Mem [] w w81 [] := hM83.sub (List.Sublist.cons _ (List.Sublist.refl _))
      refine GoS.run [0, 1, 2, 3, 4, 5, 13, 33, 34] [.n, .h (.bool false), .n, .n, .n] _ [.inRegion (cops (csub (cd Tryd.f3) [1,1,1,1,0,0])) [15,16,17,18,19,20,21,22,23], .code (csub (cd Tryd.f3) [1,1,1,1,0,1]), .code (csub (cd Tryd.f3) [1,1,1,1,1])] [(0, .int .i64 a), (1, .int .i64 b), (2, .string (sb s)), (3, .string (sb t)), (4, .string (sb x)), (5, .string (sb y)), (13, .int .i64 (-1)), (33, .bool false), (34, .string (sb s))] w81 (by kernel_rfl) (.cons o84 .nil) ?_
      refine GoS.call [0, 1, 2, 3, 4, 5, 13, 33] 11 #[.string (sb s)] (some 35) [.inRegion (cops (csub (cd Tryd.f3) [1,1,1,1,0,0])) [16,17,18,19,20,21,22,23], .code (csub (cd Tryd.f3) [1,1,1,1,0,1]), .code (csub (cd Tryd.f3) [1,1,1,1,1])] [(0, .int .i64 a), (1, .int .i64 b), (2, .string (sb s)), (3, .string (sb t)), (4, .string (sb x)), (5, .string (sb y)), (13, .int .i64 (-1)), (33, .bool false)] (by kernel_rfl) (text_c s (by omega) w81) ?_
      rintro _ w86 ⟨rfl, m87⟩
      refine ⟨_, rfl, ?_⟩
      have hM88 := Mem.join hM85 m87
      refine GoS.run [0, 1, 2, 3, 4, 5, 13, 33, 35, 36] [.n] _ [.inRegion (cops (csub (cd Tryd.f3) [1,1,1,1,0,0])) [17,18,19,20,21,22,23], .code (csub (cd Tryd.f3) [1,1,1,1,0,1]), .code (csub (cd Tryd.f3) [1,1,1,1,1])] [(0, .int .i64 a), (1, .int .i64 b), (2, .string (sb s)), (3, .string (sb t)), (4, .string (sb x)), (5, .string (sb y)), (13, .int .i64 (-1)), (33, .bool false), (35, .string (sb (textB s))), (36, .string (sb t))] w86 (by kernel_rfl) .nil ?_
      refine GoS.call [0, 1, 2, 3, 4, 5, 13, 33, 35] 11 #[.string (sb t)] (some 37) [.inRegion (cops (csub (cd Tryd.f3) [1,1,1,1,0,0])) [18,19,20,21,22,23], .code (csub (cd Tryd.f3) [1,1,1,1,0,1]), .code (csub (cd Tryd.f3) [1,1,1,1,1])] [(0, .int .i64 a), (1, .int .i64 b), (2, .string (sb s)), (3, .string (sb t)), (4, .string (sb x)), (5, .string (sb y)), (13, .int .i64 (-1)), (33, .bool false), (35, .string (sb (textB s)))] (by kernel_rfl) (text_c t (by omega) w86) ?_
      rintro _ w89 ⟨rfl, m90⟩
      refine ⟨_, rfl, ?_⟩
      have hM91 := Mem.join hM88 m90
      refine GoS.call [0, 1, 2, 3, 4, 5, 13, 33] 9 #[.string (sb (textB s)), .string (sb (textB t))] (some 38) [.inRegion (cops (csub (cd Tryd.f3) [1,1,1,1,0,0])) [19,20,21,22,23], .code (csub (cd Tryd.f3) [1,1,1,1,0,1]), .code (csub (cd Tryd.f3) [1,1,1,1,1])] [(0, .int .i64 a), (1, .int .i64 b), (2, .string (sb s)), (3, .string (sb t)), (4, .string (sb x)), (5, .string (sb y)), (13, .int .i64 (-1)), (33, .bool false)] (by kernel_rfl) (stands_c (textB s) (textB t) w89) ?_
      rintro _ _ ⟨rfl, rfl⟩
      refine ⟨_, rfl, ?_⟩
      refine GoS.run [0, 1, 2, 3, 4, 5, 13, 33, 38, 39, 40] [.n, .n] _ [.inRegion (cops (csub (cd Tryd.f3) [1,1,1,1,0,0])) [21,22,23], .code (csub (cd Tryd.f3) [1,1,1,1,0,1]), .code (csub (cd Tryd.f3) [1,1,1,1,1])] [(0, .int .i64 a), (1, .int .i64 b), (2, .string (sb s)), (3, .string (sb t)), (4, .string (sb x)), (5, .string (sb y)), (13, .int .i64 (-1)), (33, .bool false), (38, .int .i64 (cmpT (textB s) (textB t))), (39, .string (sb s)), (40, .string (sb t))] w89 (by kernel_rfl) .nil ?_
      refine GoS.call [0, 1, 2, 3, 4, 5, 13, 33, 38] 9 #[.string (sb s), .string (sb t)] (some 41) [.inRegion (cops (csub (cd Tryd.f3) [1,1,1,1,0,0])) [22,23], .code (csub (cd Tryd.f3) [1,1,1,1,0,1]), .code (csub (cd Tryd.f3) [1,1,1,1,1])] [(0, .int .i64 a), (1, .int .i64 b), (2, .string (sb s)), (3, .string (sb t)), (4, .string (sb x)), (5, .string (sb y)), (13, .int .i64 (-1)), (33, .bool false), (38, .int .i64 (cmpT (textB s) (textB t)))] (by kernel_rfl) (stands_c s t w89) ?_
      rintro _ _ ⟨rfl, rfl⟩
      refine ⟨_, rfl, ?_⟩
      have o96 : (IntKind.i64 = IntKind.i64) ∧ w89 = w89 ∧ Value.bool false = .bool ((cmpT (textB s) (textB t)) != (cmpT s t)) := ⟨rfl, rfl, congrArg Value.bool (Eq.symm (bne_eq_false_iff_eq.2 (text_cmp0 _ _)))⟩
      obtain ⟨v92, w93, hr94, hM95⟩ := m_lit sT28 hM91 (n := 1) (parts := #[(0, .int .i64 a)]) (cs := [.int .i64 a]) (by decide) (by kernel_rfl) rfl
      have o97 : (Instr.buildSlice 28 1 #[(0, .int .i64 a)]).run Tryd.prog w89 = .ok v92 w93 := hr94
      refine GoS.run [1, 2, 3, 4, 5, 13, 46, 48] [.h (.bool false), .n, .n, .n, .n, .n, .n, .n, .n, .n, .n, .n, .u (v92) (w93)] _ [.inRegion (cops (csub (cd Tryd.f3) [1,1,1,1,1,0,0])) [5,6,7,8,9,10,11,12,13,14,15,16], .code (csub (cd Tryd.f3) [1,1,1,1,1,0,1]), .code (csub (cd Tryd.f3) [1,1,1,1,1,1])] [(1, .int .i64 b), (2, .string (sb s)), (3, .string (sb t)), (4, .string (sb x)), (5, .string (sb y)), (13, .int .i64 (-1)), (46, .bool true), (48, v92)] w93 (by kernel_rfl) (.cons o96 (.cons o97 .nil)) ?_
      refine GoS.call [1, 2, 3, 4, 5, 13, 46] 10 #[v92] (some 49) [.inRegion (cops (csub (cd Tryd.f3) [1,1,1,1,1,0,0])) [6,7,8,9,10,11,12,13,14,15,16], .code (csub (cd Tryd.f3) [1,1,1,1,1,0,1]), .code (csub (cd Tryd.f3) [1,1,1,1,1,1])] [(1, .int .i64 b), (2, .string (sb s)), (3, .string (sb t)), (4, .string (sb x)), (5, .string (sb y)), (13, .int .i64 (-1)), (46, .bool true)] (by kernel_rfl) (nums1_c v92 a (by omega) w93 (hM95.rd 0 rfl)) ?_
      rintro _ w98 ⟨rfl, m99⟩
      refine ⟨_, rfl, ?_⟩
      have hM100 := Mem.join hM95 m99
      have o105 : (binOp .add 9 (.string (sb (nb a))) (.string (sb x))).run Tryd.prog w98 = .ok (.string (sb ((nb a) ++ x))) w98 := f_stradd (by have q1 := numB_len a; have q2 := numB_len b; have q3 := textB_len s; have q4 := textB_len t; first | omega | (rw [bytesOf_len']; omega))
      obtain ⟨v101, w102, hr103, hM104⟩ := m_lit sT28 hM100 (n := 1) (parts := #[(0, .int .i64 b)]) (cs := [.int .i64 b]) (by decide) (by kernel_rfl) rfl
      have o106 : (Instr.buildSlice 28 1 #[(0, .int .i64 b)]).run Tryd.prog w98 = .ok v101 w102 := hr103
      have hM107 : Mem [] w w102 [⟨3, 1, v101, 1, [.int .i64 b]⟩] := hM104.sub (List.Sublist.cons_cons _ (List.Sublist.cons _ (List.Sublist.refl _)))
      refine GoS.run [2, 3, 4, 5, 13, 46, 51, 53] [.n, .h (.string (sb ((nb a) ++ x))), .n, .u (v101) (w102)] _ [.inRegion (cops (csub (cd Tryd.f3) [1,1,1,1,1,0,0])) [10,11,12,13,14,15,16], .code (csub (cd Tryd.f3) [1,1,1,1,1,0,1]), .code (csub (cd Tryd.f3) [1,1,1,1,1,1])] [(2, .string (sb s)), (3, .string (sb t)), (4, .string (sb x)), (5, .string (sb y)), (13, .int .i64 (-1)), (46, .bool true), (51, .string (sb ((nb a) ++ x))), (53, v101)] w102 (by kernel_rfl) (.cons o105 (.cons o106 .nil)) ?_
      refine GoS.call [2, 3, 4, 5, 13, 46, 51] 10 #[v101] (some 54) [.inRegion (cops (csub (cd Tryd.f3) [1,1,1,1,1,0,0])) [11,12,13,14,15,16], .code (csub (cd Tryd.f3) [1,1,1,1,1,0,1]), .code (csub (cd Tryd.f3) [1,1,1,1,1,1])] [(2, .string (sb s)), (3, .string (sb t)), (4, .string (sb x)), (5, .string (sb y)), (13, .int .i64 (-1)), (46, .bool true), (51, .string (sb ((nb a) ++ x)))] (by kernel_rfl) (nums1_c v101 b (by omega) w102 (hM107.rd 0 rfl)) ?_
      rintro _ w108 ⟨rfl, m109⟩
      refine ⟨_, rfl, ?_⟩
      have hM110 := Mem.join hM107 m109
      have o111 : (binOp .add 9 (.string (sb (nb b))) (.string (sb y))).run Tryd.prog w108 = .ok (.string (sb ((nb b) ++ y))) w108 := f_stradd (by have q1 := numB_len a; have q2 := numB_len b; have q3 := textB_len s; have q4 := textB_len t; first | omega | (rw [bytesOf_len']; omega))
      have hM112 : Mem [] w w108 [] := hM110.sub (List.Sublist.cons _ (List.Sublist.refl _))
      refine GoS.run [2, 3, 4, 5, 13, 46, 51, 56] [.n, .h (.string (sb ((nb b) ++ y)))] _ [.inRegion (cops (csub (cd Tryd.f3) [1,1,1,1,1,0,0])) [13,14,15,16], .code (csub (cd Tryd.f3) [1,1,1,1,1,0,1]), .code (csub (cd Tryd.f3) [1,1,1,1,1,1])] [(2, .string (sb s)), (3, .string (sb t)), (4, .string (sb x)), (5, .string (sb y)), (13, .int .i64 (-1)), (46, .bool true), (51, .string (sb ((nb a) ++ x))), (56, .string (sb ((nb b) ++ y)))] w108 (by kernel_rfl) (.cons o111 .nil) ?_
      refine GoS.call [2, 3, 4, 5, 13, 46] 9 #[.string (sb ((nb a) ++ x)), .string (sb ((nb b) ++ y))] (some 57) [.inRegion (cops (csub (cd Tryd.f3) [1,1,1,1,1,0,0])) [14,15,16], .code (csub (cd Tryd.f3) [1,1,1,1,1,0,1]), .code (csub (cd Tryd.f3) [1,1,1,1,1,1])] [(2, .string (sb s)), (3, .string (sb t)), (4, .string (sb x)), (5, .string (sb y)), (13, .int .i64 (-1)), (46, .bool true)] (by kernel_rfl) (stands_c ((nb a) ++ x) ((nb b) ++ y) w108) ?_
      rintro _ _ ⟨rfl, rfl⟩
      refine ⟨_, rfl, ?_⟩
      have o113 : (IntKind.i64 = IntKind.i64) ∧ w108 = w108 ∧ Value.bool false = .bool ((cmpT ((nb a) ++ x) ((nb b) ++ y)) != (-1)) := ⟨rfl, rfl, congrArg Value.bool (Eq.symm (bne_eq_false_iff_eq.2 (by rw [num_cmp ha hb (by omega) _ _]; unfold cmpI; split <;> first | omega | (split <;> omega))))⟩
      have o114 : (binOp .eql 9 (.string (sb s)) (.string (sb t))).run Tryd.prog w108 = .ok (.bool (decide (s = t))) w108 := f_streq
      refine GoS.run [2, 3, 4, 5, 64] [.n, .h (.bool false), .n, .n, .n, .n, .n, .n, .n, .n, .h (.bool (decide (s = t))), .n] _ [.inRegion (cops (csub (cd Tryd.f3) [1,1,1,1,1,1,0])) [4,5,6,7,8,9,10,11,12,13,14,15,16,17,18], .code (csub (cd Tryd.f3) [1,1,1,1,1,1,1])] [(2, .string (sb s)), (3, .string (sb t)), (4, .string (sb x)), (5, .string (sb y)), (64, .bool (decide (s = t)))] w108 (by kernel_rfl) (.cons o113 (.cons o114 .nil)) ?_
      refine GoS.fork 64 (decide (s = t)) (by kernel_rfl) (fun h115 => ?_) (fun h115 => ?_)
      ·
        have h115p : s = t := of_decide_eq_true h115
        refine GoS.run [12] [.n, .n, .n, .n, .n, .n, .n, .n, .n, .n, .n, .n, .n, .n, .n] _ [.inRegion (cops (csub (cd Tryd.f3) [1,1,1,1,1,1,0])) [], .code (csub (cd Tryd.f3) [1,1,1,1,1,1,1])] [(12, .bool true)] w108 (by kernel_rfl) .nil ?_
        refine GoS.run [12] [.n] _ [.code (csub (cd Tryd.f3) [1,1,1,1,1,1,1])] [(12, .bool true)] w108 (by kernel_rfl) .nil ?_
        refine GoS.ret (fn := Tryd.f3) (v := (.bool true)) Tryd.func3 (by kernel_rfl) ?_
        rw [hR]
        exact ⟨rfl, (hM112.sub (List.nil_sublist _)).below⟩
      ·
        have h115p : ¬ (s = t) := of_decide_eq_false h115
        refine GoS.run [2, 3, 4, 5, 64, 65] [.n] _ [.inRegion (cops (csub (cd Tryd.f3) [1,1,1,1,1,1,0])) [5,6,7,8,9,10,11,12,13,14,15,16,17,18], .code (csub (cd Tryd.f3) [1,1,1,1,1,1,1])] [(2, .string (sb s)), (3, .string (sb t)), (4, .string (sb x)), (5, .string (sb y)), (64, .bool false), (65, .string (sb s))] w108 (by kernel_rfl) .nil ?_
        refine GoS.call [2, 3, 4, 5, 64] 11 #[.string (sb s)] (some 66) [.inRegion (cops (csub (cd Tryd.f3) [1,1,1,1,1,1,0])) [6,7,8,9,10,11,12,13,14,15,16,17,18], .code (csub (cd Tryd.f3) [1,1,1,1,1,1,1])] [(2, .string (sb s)), (3, .string (sb t)), (4, .string (sb x)), (5, .string (sb y)), (64, .bool false)] (by kernel_rfl) (text_c s (by omega) w108) ?_
        rintro _ w116 ⟨rfl, m117⟩
        refine ⟨_, rfl, ?_⟩
        have hM118 := Mem.join hM112 m117
        have o119 : (binOp .add 9 (.string (sb (textB s))) (.string (sb x))).run Tryd.prog w116 = .ok (.string (sb ((textB s) ++ x))) w116 := f_stradd (by have q1 := numB_len a; have q2 := numB_len b; have q3 := textB_len s; have q4 := textB_len t; first | omega | (rw [bytesOf_len']; omega))
        refine GoS.run [2, 3, 5, 64, 68, 69] [.n, .h (.string (sb ((textB s) ++ x))), .n] _ [.inRegion (cops (csub (cd Tryd.f3) [1,1,1,1,1,1,0])) [9,10,11,12,13,14,15,16,17,18], .code (csub (cd Tryd.f3) [1,1,1,1,1,1,1])] [(2, .string (sb s)), (3, .string (sb t)), (5, .string (sb y)), (64, .bool false), (68, .string (sb ((textB s) ++ x))), (69, .string (sb t))] w116 (by kernel_rfl) (.cons o119 .nil) ?_
        refine GoS.call [2, 3, 5, 64, 68] 11 #[.string (sb t)] (some 70) [.inRegion (cops (csub (cd Tryd.f3) [1,1,1,1,1,1,0])) [10,11,12,13,14,15,16,17,18], .code (csub (cd Tryd.f3) [1,1,1,1,1,1,1])] [(2, .string (sb s)), (3, .string (sb t)), (5, .string (sb y)), (64, .bool false), (68, .string (sb ((textB s) ++ x)))] (by kernel_rfl) (text_c t (by omega) w116) ?_
        rintro _ w120 ⟨rfl, m121⟩
        refine ⟨_, rfl, ?_⟩
        have hM122 := Mem.join hM118 m121
        have o123 : (binOp .add 9 (.string (sb (textB t))) (.string (sb y))).run Tryd.prog w120 = .ok (.string (sb ((textB t) ++ y))) w120 := f_stradd (by have q1 := numB_len a; have q2 := numB_len b; have q3 := textB_len s; have q4 := textB_len t; first | omega | (rw [bytesOf_len']; omega))
        refine GoS.run [2, 3, 64, 68, 72] [.n, .h (.string (sb ((textB t) ++ y)))] _ [.inRegion (cops (csub (cd Tryd.f3) [1,1,1,1,1,1,0])) [12,13,14,15,16,17,18], .code (csub (cd Tryd.f3) [1,1,1,1,1,1,1])] [(2, .string (sb s)), (3, .string (sb t)), (64, .bool false), (68, .string (sb ((textB s) ++ x))), (72, .string (sb ((textB t) ++ y)))] w120 (by kernel_rfl) (.cons o123 .nil) ?_
        refine GoS.call [2, 3, 64] 9 #[.string (sb ((textB s) ++ x)), .string (sb ((textB t) ++ y))] (some 73) [.inRegion (cops (csub (cd Tryd.f3) [1,1,1,1,1,1,0])) [13,14,15,16,17,18], .code (csub (cd Tryd.f3) [1,1,1,1,1,1,1])] [(2, .string (sb s)), (3, .string (sb t)), (64, .bool false)] (by kernel_rfl) (stands_c ((textB s) ++ x) ((textB t) ++ y) w120) ?_
        rintro _ _ ⟨rfl, rfl⟩
        refine ⟨_, rfl, ?_⟩
        refine GoS.run [64, 73, 74, 75] [.n, .n] _ [.inRegion (cops (csub (cd Tryd.f3) [1,1,1,1,1,1,0])) [15,16,17,18], .code (csub (cd Tryd.f3) [1,1,1,1,1,1,1])] [(64, .bool false), (73, .int .i64 (cmpT ((textB s) ++ x) ((textB t) ++ y))), (74, .string (sb s)), (75, .string (sb t))] w120 (by kernel_rfl) .nil ?_
        refine GoS.call [64, 73] 9 #[.string (sb s), .string (sb t)] (some 76) [.inRegion (cops (csub (cd Tryd.f3) [1,1,1,1,1,1,0])) [16,17,18], .code (csub (cd Tryd.f3) [1,1,1,1,1,1,1])] [(64, .bool false), (73, .int .i64 (cmpT ((textB s) ++ x) ((textB t) ++ y)))] (by kernel_rfl) (stands_c s t w120) ?_
        rintro _ _ ⟨rfl, rfl⟩
        refine ⟨_, rfl, ?_⟩
        have o124 : (IntKind.i64 = IntKind.i64) ∧ w120 = w120 ∧ Value.bool true = .bool ((cmpT ((textB s) ++ x) ((textB t) ++ y)) == (cmpT s t)) := ⟨rfl, rfl, congrArg Value.bool (Eq.symm (beq_iff_eq.2 (text_cmp (by assumption) _ _)))⟩
        refine GoS.run [12] [.h (.bool true), .n, .n] _ [.inRegion (cops (csub (cd Tryd.f3) [1,1,1,1,1,1,0])) [], .code (csub (cd Tryd.f3) [1,1,1,1,1,1,1])] [(12, .bool true)] w120 (by kernel_rfl) (.cons o124 .nil) ?_
        refine GoS.run [12] [.n] _ [.code (csub (cd Tryd.f3) [1,1,1,1,1,1,1])] [(12, .bool true)] w120 (by kernel_rfl) .nil ?_
        refine GoS.ret (fn := Tryd.f3) (v := (.bool true)) Tryd.func3 (by kernel_rfl) ?_
        rw [hR]
        exact ⟨rfl, (hM122.sub (List.nil_sublist _)).below⟩
  ·
    have h1p : ¬ (a < b) := of_decide_eq_false h1
    refine GoS.run [0, 1, 2, 3, 4, 5, 13] [.n] _ [.code (csub (cd Tryd.f3) [1,1,1])] [(0, .int .i64 a), (1, .int .i64 b), (2, .string (sb s)), (3, .string (sb t)), (4, .string (sb x)), (5, .string (sb y)), (13, .int .i64 0)] w (by kernel_rfl) .nil ?_
    refine GoS.run [0, 1, 2, 3, 4, 5, 13, 19] [.n, .n, .n, .n, .n, .n, .n] _ [.code (csub (cd Tryd.f3) [1,1,1,0,1]), .code (csub (cd Tryd.f3) [1,1,1,1])] [(0, .int .i64 a), (1, .int .i64 b), (2, .string (sb s)), (3, .string (sb t)), (4, .string (sb x)), (5, .string (sb y)), (13, .int .i64 0), (19, .bool (decide (a > b)))] w (by kernel_rfl) .nil ?_
    refine GoS.cond (decide (a > b)) [.code (csub (cd Tryd.f3) [1,1,1,0,1,0]), .code (csub (cd Tryd.f3) [1,1,1,1])] [.code (csub (cd Tryd.f3) [1,1,1,0,1,1]), .code (csub (cd Tryd.f3) [1,1,1,1])] (by kernel_rfl) (fun h125 => ?_) (fun h125 => ?_)
    ·
      have h125p : a > b := of_decide_eq_true h125
      refine GoS.run [0, 1, 2, 3, 4, 5, 13] [.n, .n, .n] _ [.code (csub (cd Tryd.f3) [1,1,1,1])] [(0, .int .i64 a), (1, .int .i64 b), (2, .string (sb s)), (3, .string (sb t)), (4, .string (sb x)), (5, .string (sb y)), (13, .int .i64 1)] w (by kernel_rfl) .nil ?_
      refine GoS.run [0, 1, 2, 3, 4, 5, 13] [.n, .n, .n] _ [.inRegion (cops (csub (cd Tryd.f3) [1,1,1,1,0,0])) [0,1,2,3,4,5,6,7,8,9,10,11,12,13,14,15,16,17,18,19,20,21,22,23], .code (csub (cd Tryd.f3) [1,1,1,1,0,1]), .code (csub (cd Tryd.f3) [1,1,1,1,1])] [(0, .int .i64 a), (1, .int .i64 b), (2, .string (sb s)), (3, .string (sb t)), (4, .string (sb x)), (5, .string (sb y)), (13, .int .i64 1)] w (by kernel_rfl) .nil ?_
      refine GoS.call [0, 1, 2, 3, 4, 5, 13] 8 #[] (some 20) [.inRegion (cops (csub (cd Tryd.f3) [1,1,1,1,0,0])) [1,2,3,4,5,6,7,8,9,10,11,12,13,14,15,16,17,18,19,20,21,22,23], .code (csub (cd Tryd.f3) [1,1,1,1,0,1]), .code (csub (cd Tryd.f3) [1,1,1,1,1])] [(0, .int .i64 a), (1, .int .i64 b), (2, .string (sb s)), (3, .string (sb t)), (4, .string (sb x)), (5, .string (sb y)), (13, .int .i64 1)] (by kernel_rfl) (awake_c w) ?_
      rintro _ w126 ⟨rfl, m127⟩
      refine ⟨_, rfl, ?_⟩
      have hM128 := Mem.join hM0 m127
      obtain ⟨v129, w130, hr131, hM132⟩ := m_lit sT28 hM128 (n := 1) (parts := #[(0, .int .i64 a)]) (cs := [.int .i64 a]) (by decide) (by kernel_rfl) rfl
      have o133 : (Instr.buildSlice 28 1 #[(0, .int .i64 a)]).run Tryd.prog w126 = .ok v129 w130 := hr131
      refine GoS.run [0, 1, 2, 3, 4, 5, 13, 22, 24] [.n, .n, .n, .u (v129) (w130)] _ [.inRegion (cops (csub (cd Tryd.f3) [1,1,1,1,0,0])) [5,6,7,8,9,10,11,12,13,14,15,16,17,18,19,20,21,22,23], .code (csub (cd Tryd.f3) [1,1,1,1,0,1]), .code (csub (cd Tryd.f3) [1,1,1,1,1])] [(0, .int .i64 a), (1, .int .i64 b), (2, .string (sb s)), (3, .string (sb t)), (4, .string (sb x)), (5, .string (sb y)), (13, .int .i64 1), (22, .bool false), (24, v129)] w130 (by kernel_rfl) (.cons o133 .nil) ?_
      refine GoS.call [0, 1, 2, 3, 4, 5, 13, 22] 10 #[v129] (some 25) [.inRegion (cops (csub (cd Tryd.f3) [1,1,1,1,0,0])) [6,7,8,9,10,11,12,13,14,15,16,17,18,19,20,21,22,23], .code (csub (cd Tryd.f3) [1,1,1,1,0,1]), .code (csub (cd Tryd.f3) [1,1,1,1,1])] [(0, .int .i64 a), (1, .int .i64 b), (2, .string (sb s)), (3, .string (sb t)), (4, .string (sb x)), (5, .string (sb y)), (13, .int .i64 1), (22, .bool false)] (by kernel_rfl) (nums1_c v129 a (by omega) w130 (hM132.rd 0 rfl)) ?_
      rintro _ w134 ⟨rfl, m135⟩
      refine ⟨_, rfl, ?_⟩
      have hM136 := Mem.join hM132 m135
      obtain ⟨v137, w138, hr139, hM140⟩ := m_lit sT28 hM136 (n := 1) (parts := #[(0, .int .i64 b)]) (cs := [.int .i64 b]) (by decide) (by kernel_rfl) rfl
      have o141 : (Instr.buildSlice 28 1 #[(0, .int .i64 b)]).run Tryd.prog w134 = .ok v137 w138 := hr139
      have hM142 : Mem [] w w138 [⟨3, 1, v137, 1, [.int .i64 b]⟩] := hM140.sub (List.Sublist.cons_cons _ (List.Sublist.cons _ (List.Sublist.refl _)))
      refine GoS.run [0, 1, 2, 3, 4, 5, 13, 22, 25, 27] [.n, .u (v137) (w138)] _ [.inRegion (cops (csub (cd Tryd.f3) [1,1,1,1,0,0])) [8,9,10,11,12,13,14,15,16,17,18,19,20,21,22,23], .code (csub (cd Tryd.f3) [1,1,1,1,0,1]), .code (csub (cd Tryd.f3) [1,1,1,1,1])] [(0, .int .i64 a), (1, .int .i64 b), (2, .string (sb s)), (3, .string (sb t)), (4, .string (sb x)), (5, .string (sb y)), (13, .int .i64 1), (22, .bool false), (25, .string (sb (nb a))), (27, v137)] w138 (by kernel_rfl) (.cons o141 .nil) ?_
      refine GoS.call [0, 1, 2, 3, 4, 5, 13, 22, 25] 10 #[v137] (some 28) [.inRegion (cops (csub (cd Tryd.f3) [1,1,1,1,0,0])) [9,10,11,12,13,14,15,16,17,18,19,20,21,22,23], .code (csub (cd Tryd.f3) [1,1,1,1,0,1]), .code (csub (cd Tryd.f3) [1,1,1,1,1])] [(0, .int .i64 a), (1, .int .i64 b), (2, .string (sb s)), (3, .string (sb t)), (4, .string (sb x)), (5, .string (sb y)), (13, .int .i64 1), (22, .bool false), (25, .string (sb (nb a)))] (by kernel_rfl) (nums1_c v137 b (by omega) w138 (hM142.rd 0 rfl)) ?_
      rintro _ w143 ⟨rfl, m144⟩
      refine ⟨_, rfl, ?_⟩
      have hM145 := Mem.join hM142 m144
      refine GoS.call [0, 1, 2, 3, 4, 5, 13, 22] 9 #[.string (sb (nb a)), .string (sb (nb b))] (some 29) [.inRegion (cops (csub (cd Tryd.f3) [1,1,1,1,0,0])) [10,11,12,13,14,15,16,17,18,19,20,21,22,23], .code (csub (cd Tryd.f3) [1,1,1,1,0,1]), .code (csub (cd Tryd.f3) [1,1,1,1,1])] [(0, .int .i64 a), (1, .int .i64 b), (2, .string (sb s)), (3, .string (sb t)), (4, .string (sb x)), (5, .string (sb y)), (13, .int .i64 1), (22, .bool false)] (by kernel_rfl) (stands_c (nb a) (nb b) w143) ?_
      rintro _ _ ⟨rfl, rfl⟩
      refine ⟨_, rfl, ?_⟩
      have o146 : (IntKind.i64 = IntKind.i64) ∧ w143 = w143 ∧ Value.bool false = .bool ((cmpT (nb a) (nb b)) != 1) := ⟨rfl, rfl, congrArg Value.bool (Eq.symm (bne_eq_false_iff_eq.2 (by rw [num_cmp0 ha hb]; unfold cmpI; split <;> first | omega | (split <;> omega))))⟩
      have hM147 : Mem [] w w143 [] := hM145.sub (List.Sublist.cons _ (List.Sublist.refl _))
      refine GoS.run [0, 1, 2, 3, 4, 5, 13, 33, 34] [.n, .h (.bool false), .n, .n, .n] _ [.inRegion (cops (csub (cd Tryd.f3) [1,1,1,1,0,0])) [15,16,17,18,19,20,21,22,23], .code (csub (cd Tryd.f3) [1,1,1,1,0,1]), .code (csub (cd Tryd.f3) [1,1,1,1,1])] [(0, .int .i64 a), (1, .int .i64 b), (2, .string (sb s)), (3, .string (sb t)), (4, .string (sb x)), (5, .string (sb y)), (13, .int .i64 1), (33, .bool false), (34, .string (sb s))] w143 (by kernel_rfl) (.cons o146 .nil) ?_
      refine GoS.call [0, 1, 2, 3, 4, 5, 13, 33] 11 #[.string (sb s)] (some 35) [.inRegion (cops (csub (cd Tryd.f3) [1,1,1,1,0,0])) [16,17,18,19,20,21,22,23], .code (csub (cd Tryd.f3) [1,1,1,1,0,1]), .code (csub (cd Tryd.f3) [1,1,1,1,1])] [(0, .int .i64 a), (1, .int .i64 b), (2, .string (sb s)), (3, .string (sb t)), (4, .string (sb x)), (5, .string (sb y)), (13, .int .i64 1), (33, .bool false)] (by kernel_rfl) (text_c s (by omega) w143) ?_
      rintro _ w148 ⟨rfl, m149⟩
      refine ⟨_, rfl, ?_⟩
      have hM150 := Mem.join hM147 m149
      refine GoS.run [0, 1, 2, 3, 4, 5, 13, 33, 35, 36] [.n] _ [.inRegion (cops (csub (cd Tryd.f3) [1,1,1,1,0,0])) [17,18,19,20,21,22,23], .code (csub (cd Tryd.f3) [1,1,1,1,0,1]), .code (csub (cd Tryd.f3) [1,1,1,1,1])] [(0, .int .i64 a), (1, .int .i64 b), (2, .string (sb s)), (3, .string (sb t)), (4, .string (sb x)), (5, .string (sb y)), (13, .int .i64 1), (33, .bool false), (35, .string (sb (textB s))), (36, .string (sb t))] w148 (by kernel_rfl) .nil ?_
      refine GoS.call [0, 1, 2, 3, 4, 5, 13, 33, 35] 11 #[.string (sb t)] (some 37) [.inRegion (cops (csub (cd Tryd.f3) [1,1,1,1,0,0])) [18,19,20,21,22,23], .code (csub (cd Tryd.f3) [1,1,1,1,0,1]), .code (csub (cd Tryd.f3) [1,1,1,1,1])] [(0, .int .i64 a), (1, .int .i64 b), (2, .string (sb s)), (3, .string (sb t)), (4, .string (sb x)), (5, .string (sb y)), (13, .int .i64 1), (33, .bool false), (35, .string (sb (textB s)))] (by kernel_rfl) (text_c t (by omega) w148) ?_
      rintro _ w151 ⟨rfl, m152⟩
      refine ⟨_, rfl, ?_⟩
      have hM153 := Mem.join hM150 m152
      refine GoS.call [0, 1, 2, 3, 4, 5, 13, 33] 9 #[.string (sb (textB s)), .string (sb (textB t))] (some 38) [.inRegion (cops (csub (cd Tryd.f3) [1,1,1,1,0,0])) [19,20,21,22,23], .code (csub (cd Tryd.f3) [1,1,1,1,0,1]), .code (csub (cd Tryd.f3) [1,1,1,1,1])] [(0, .int .i64 a), (1, .int .i64 b), (2, .string (sb s)), (3, .string (sb t)), (4, .string (sb x)), (5, .string (sb y)), (13, .int .i64 1), (33, .bool false)] (by kernel_rfl) (stands_c (textB s) (textB t) w151) ?_
      rintro _ _ ⟨rfl, rfl⟩
      refine ⟨_, rfl, ?_⟩
      refine GoS.run [0, 1, 2, 3, 4, 5, 13, 33, 38, 39, 40] [.n, .n] _ [.inRegion (cops (csub (cd Tryd.f3) [1,1,1,1,0,0])) [21,22,23], .code (csub (cd Tryd.f3) [1,1,1,1,0,1]), .code (csub (cd Tryd.f3) [1,1,1,1,1])] [(0, .int .i64 a), (1, .int .i64 b), (2, .string (sb s)), (3, .string (sb t)), (4, .string (sb x)), (5, .string (sb y)), (13, .int .i64 1), (33, .bool false), (38, .int .i64 (cmpT (textB s) (textB t))), (39, .string (sb s)), (40, .string (sb t))] w151 (by kernel_rfl) .nil ?_
      refine GoS.call [0, 1, 2, 3, 4, 5, 13, 33, 38] 9 #[.string (sb s), .string (sb t)] (some 41) [.inRegion (cops (csub (cd Tryd.f3) [1,1,1,1,0,0])) [22,23], .code (csub (cd Tryd.f3) [1,1,1,1,0,1]), .code (csub (cd Tryd.f3) [1,1,1,1,1])] [(0, .int .i64 a), (1, .int .i64 b), (2, .string (sb s)), (3, .string (sb t)), (4, .string (sb x)), (5, .string (sb y)), (13, .int .i64 1), (33, .bool false), (38, .int .i64 (cmpT (textB s) (textB t)))] (by kernel_rfl) (stands_c s t w151) ?_
      rintro _ _ ⟨rfl, rfl⟩
      refine ⟨_, rfl, ?_⟩
      have o158 : (IntKind.i64 = IntKind.i64) ∧ w151 = w151 ∧ Value.bool false = .bool ((cmpT (textB s) (textB t)) != (cmpT s t)) := ⟨rfl, rfl, congrArg Value.bool (Eq.symm (bne_eq_false_iff_eq.2 (text_cmp0 _ _)))⟩
      obtain ⟨v154, w155, hr156, hM157⟩ := m_lit sT28 hM153 (n := 1) (parts := #[(0, .int .i64 a)]) (cs := [.int .i64 a]) (by decide) (by kernel_rfl) rfl
      have o159 : (Instr.buildSlice 28 1 #[(0, .int .i64 a)]).run Tryd.prog w151 = .ok v154 w155 := hr156
      refine GoS.run [1, 2, 3, 4, 5, 13, 46, 48] [.h (.bool false), .n, .n, .n, .n, .n, .n, .n, .n, .n, .n, .n, .u (v154) (w155)] _ [.inRegion (cops (csub (cd Tryd.f3) [1,1,1,1,1,0,0])) [5,6,7,8,9,10,11,12,13,14,15,16], .code (csub (cd Tryd.f3) [1,1,1,1,1,0,1]), .code (csub (cd Tryd.f3) [1,1,1,1,1,1])] [(1, .int .i64 b), (2, .string (sb s)), (3, .string (sb t)), (4, .string (sb x)), (5, .string (sb y)), (13, .int .i64 1), (46, .bool true), (48, v154)] w155 (by kernel_rfl) (.cons o158 (.cons o159 .nil)) ?_
      refine GoS.call [1, 2, 3, 4, 5, 13, 46] 10 #[v154] (some 49) [.inRegion (cops (csub (cd Tryd.f3) [1,1,1,1,1,0,0])) [6,7,8,9,10,11,12,13,14,15,16], .code (csub (cd Tryd.f3) [1,1,1,1,1,0,1]), .code (csub (cd Tryd.f3) [1,1,1,1,1,1])] [(1, .int .i64 b), (2, .string (sb s)), (3, .string (sb t)), (4, .string (sb x)), (5, .string (sb y)), (13, .int .i64 1), (46, .bool true)] (by kernel_rfl) (nums1_c v154 a (by omega) w155 (hM157.rd 0 rfl)) ?_
      rintro _ w160 ⟨rfl, m161⟩
      refine ⟨_, rfl, ?_⟩
      have hM162 := Mem.join hM157 m161
      have o167 : (binOp .add 9 (.string (sb (nb a))) (.string (sb x))).run Tryd.prog w160 = .ok (.string (sb ((nb a) ++ x))) w160 := f_stradd (by have q1 := numB_len a; have q2 := numB_len b; have q3 := textB_len s; have q4 := textB_len t; first | omega | (rw [bytesOf_len']; omega))
      obtain ⟨v163, w164, hr165, hM166⟩ := m_lit sT28 hM162 (n := 1) (parts := #[(0, .int .i64 b)]) (cs := [.int .i64 b]) (by decide) (by kernel_rfl) rfl
      have o168 : (Instr.buildSlice 28 1 #[(0, .int .i64 b)]).run Tryd.prog w160 = .ok v163 w164 := hr165
      have hM169 : Mem [] w w164 [⟨3, 1, v163, 1, [.int .i64 b]⟩] := hM166.sub (List.Sublist.cons_cons _ (List.Sublist.cons _ (List.Sublist.refl _)))
      refine GoS.run [2, 3, 4, 5, 13, 46, 51, 53] [.n, .h (.string (sb ((nb a) ++ x))), .n, .u (v163) (w164)] _ [.inRegion (cops (csub (cd Tryd.f3) [1,1,1,1,1,0,0])) [10,11,12,13,14,15,16], .code (csub (cd Tryd.f3) [1,1,1,1,1,0,1]), .code (csub (cd Tryd.f3) [1,1,1,1,1,1])] [(2, .string (sb s)), (3, .string (sb t)), (4, .string (sb x)), (5, .string (sb y)), (13, .int .i64 1), (46, .bool true), (51, .string (sb ((nb a) ++ x))), (53, v163)] w164 (by kernel_rfl) (.cons o167 (.cons o168 .nil)) ?_
      refine GoS.call [2, 3, 4, 5, 13, 46, 51] 10 #[v163] (some 54) [.inRegion (cops (csub (cd Tryd.f3) [1,1,1,1,1,0,0])) [11,12,13,14,15,16], .code (csub (cd Tryd.f3) [1,1,1,1,1,0,1]), .code (csub (cd Tryd.f3) [1,1,1,1,1,1])] [(2, .string (sb s)), (3, .string (sb t)), (4, .string (sb x)), (5, .string (sb y)), (13, .int .i64 1), (46, .bool true), (51, .string (sb ((nb a) ++ x)))] (by kernel_rfl) (nums1_c v163 b (by omega) w164 (hM169.rd 0 rfl)) ?_
      rintro _ w170 ⟨rfl, m171⟩
      refine ⟨_, rfl, ?_⟩
      have hM172 := Mem.join hM169 m171
      have o173 : (binOp .add 9 (.string (sb (nb b))) (.string (sb y))).run Tryd.prog w170 = .ok (.string (sb ((nb b) ++ y))) w170 := f_stradd (by have q1 := numB_len a; have q2 := numB_len b; have q3 := textB_len s; have q4 := textB_len t; first | omega | (rw [bytesOf_len']; omega))
      have hM174 : Mem [] w w170 [] := hM172.sub (List.Sublist.cons _ (List.Sublist.refl _))
      refine GoS.run [2, 3, 4, 5, 13, 46, 51, 56] [.n, .h (.string (sb ((nb b) ++ y)))] _ [.inRegion (cops (csub (cd Tryd.f3) [1,1,1,1,1,0,0])) [13,14,15,16], .code (csub (cd Tryd.f3) [1,1,1,1,1,0,1]), .code (csub (cd Tryd.f3) [1,1,1,1,1,1])] [(2, .string (sb s)), (3, .string (sb t)), (4, .string (sb x)), (5, .string (sb y)), (13, .int .i64 1), (46, .bool true), (51, .string (sb ((nb a) ++ x))), (56, .string (sb ((nb b) ++ y)))] w170 (by kernel_rfl) (.cons o173 .nil) ?_
      refine GoS.call [2, 3, 4, 5, 13, 46] 9 #[.string (sb ((nb a) ++ x)), .string (sb ((nb b) ++ y))] (some 57) [.inRegion (cops (csub (cd Tryd.f3) [1,1,1,1,1,0,0])) [14,15,16], .code (csub (cd Tryd.f3) [1,1,1,1,1,0,1]), .code (csub (cd Tryd.f3) [1,1,1,1,1,1])] [(2, .string (sb s)), (3, .string (sb t)), (4, .string (sb x)), (5, .string (sb y)), (13, .int .i64 1), (46, .bool true)] (by kernel_rfl) (stands_c ((nb a) ++ x) ((nb b) ++ y) w170) ?_
      rintro _ _ ⟨rfl, rfl⟩
      refine ⟨_, rfl, ?_⟩
      have o175 : (IntKind.i64 = IntKind.i64) ∧ w170 = w170 ∧ Value.bool false = .bool ((cmpT ((nb a) ++ x) ((nb b) ++ y)) != 1) := ⟨rfl, rfl, congrArg Value.bool (Eq.symm (bne_eq_false_iff_eq.2 (by rw [num_cmp ha hb (by omega) _ _]; unfold cmpI; split <;> first | omega | (split <;> omega))))⟩
      have o176 : (binOp .eql 9 (.string (sb s)) (.string (sb t))).run Tryd.prog w170 = .ok (.bool (decide (s = t))) w170 := f_streq
      refine GoS.run [2, 3, 4, 5, 64] [.n, .h (.bool false), .n, .n, .n, .n, .n, .n, .n, .n, .h (.bool (decide (s = t))), .n] _ [.inRegion (cops (csub (cd Tryd.f3) [1,1,1,1,1,1,0])) [4,5,6,7,8,9,10,11,12,13,14,15,16,17,18], .code (csub (cd Tryd.f3) [1,1,1,1,1,1,1])] [(2, .string (sb s)), (3, .string (sb t)), (4, .string (sb x)), (5, .string (sb y)), (64, .bool (decide (s = t)))] w170 (by kernel_rfl) (.cons o175 (.cons o176 .nil)) ?_
      refine GoS.fork 64 (decide (s = t)) (by kernel_rfl) (fun h177 => ?_) (fun h177 => ?_)
      ·
        have h177p : s = t := of_decide_eq_true h177
        refine GoS.run [12] [.n, .n, .n, .n, .n, .n, .n, .n, .n, .n, .n, .n, .n, .n, .n] _ [.inRegion (cops (csub (cd Tryd.f3) [1,1,1,1,1,1,0])) [], .code (csub (cd Tryd.f3) [1,1,1,1,1,1,1])] [(12, .bool true)] w170 (by kernel_rfl) .nil ?_
        refine GoS.run [12] [.n] _ [.code (csub (cd Tryd.f3) [1,1,1,1,1,1,1])] [(12, .bool true)] w170 (by kernel_rfl) .nil ?_
        refine GoS.ret (fn := Tryd.f3) (v := (.bool true)) Tryd.func3 (by kernel_rfl) ?_
        rw [hR]
        exact ⟨rfl, (hM174.sub (List.nil_sublist _)).below⟩
      ·
        have h177p : ¬ (s = t) := of_decide_eq_false h177
        refine GoS.run [2, 3, 4, 5, 64, 65] [.n] _ [.inRegion (cops (csub (cd Tryd.f3) [1,1,1,1,1,1,0])) [5,6,7,8,9,10,11,12,13,14,15,16,17,18], .code (csub (cd Tryd.f3) [1,1,1,1,1,1,1])] [(2, .string (sb s)), (3, .string (sb t)), (4, .string (sb x)), (5, .string (sb y)), (64, .bool false), (65, .string (sb s))] w170 (by kernel_rfl) .nil ?_
        refine GoS.call [2, 3, 4, 5, 64] 11 #[.string (sb s)] (some 66) [.inRegion (cops (csub (cd Tryd.f3) [1,1,1,1,1,1,0])) [6,7,8,9,10,11,12,13,14,15,16,17,18], .code (csub (cd Tryd.f3) [1,1,1,1,1,1,1])] [(2, .string (sb s)), (3, .string (sb t)), (4, .string (sb x)), (5, .string (sb y)), (64, .bool false)] (by kernel_rfl) (text_c s (by omega) w170) ?_
        rintro _ w178 ⟨rfl, m179⟩
        refine ⟨_, rfl, ?_⟩
        have hM180 := Mem.join hM174 m179
        have o181 : (binOp .add 9 (.string (sb (textB s))) (.string (sb x))).run Tryd.prog w178 = .ok (.string (sb ((textB s) ++ x))) w178 := f_stradd (by have q1 := numB_len a; have q2 := numB_len b; have q3 := textB_len s; have q4 := textB_len t; first | omega | (rw [bytesOf_len']; omega))
        refine GoS.run [2, 3, 5, 64, 68, 69] [.n, .h (.string (sb ((textB s) ++ x))), .n] _ [.inRegion (cops (csub (cd Tryd.f3) [1,1,1,1,1,1,0])) [9,10,11,12,13,14,15,16,17,18], .code (csub (cd Tryd.f3) [1,1,1,1,1,1,1])] [(2, .string (sb s)), (3, .string (sb t)), (5, .string (sb y)), (64, .bool false), (68, .string (sb ((textB s) ++ x))), (69, .string (sb t))] w178 (by kernel_rfl) (.cons o181 .nil) ?_
        refine GoS.call [2, 3, 5, 64, 68] 11 #[.string (sb t)] (some 70) [.inRegion (cops (csub (cd Tryd.f3) [1,1,1,1,1,1,0])) [10,11,12,13,14,15,16,17,18], .code (csub (cd Tryd.f3) [1,1,1,1,1,1,1])] [(2, .string (sb s)), (3, .string (sb t)), (5, .string (sb y)), (64, .bool false), (68, .string (sb ((textB s) ++ x)))] (by kernel_rfl) (text_c t (by omega) w178) ?_
        rintro _ w182 ⟨rfl, m183⟩
        refine ⟨_, rfl, ?_⟩
        have hM184 := Mem.join hM180 m183
        have o185 : (binOp .add 9 (.string (sb (textB t))) (.string (sb y))).run Tryd.prog w182 = .ok (.string (sb ((textB t) ++ y))) w182 := f_stradd (by have q1 := numB_len a; have q2 := numB_len b; have q3 := textB_len s; have q4 := textB_len t; first | omega | (rw [bytesOf_len']; omega))
        refine GoS.run [2, 3, 64, 68, 72] [.n, .h (.string (sb ((textB t) ++ y)))] _ [.inRegion (cops (csub (cd Tryd.f3) [1,1,1,1,1,1,0])) [12,13,14,15,16,17,18], .code (csub (cd Tryd.f3) [1,1,1,1,1,1,1])] [(2, .string (sb s)), (3, .string (sb t)), (64, .bool false), (68, .string (sb ((textB s) ++ x))), (72, .string (sb ((textB t) ++ y)))] w182 (by kernel_rfl) (.cons o185 .nil) ?_
        refine GoS.call [2, 3, 64] 9 #[.string (sb ((textB s) ++ x)), .string (sb ((textB t) ++ y))] (some 73) [.inRegion (cops (csub (cd Tryd.f3) [1,1,1,1,1,1,0])) [13,14,15,16,17,18], .code (csub (cd Tryd.f3) [1,1,1,1,1,1,1])] [(2, .string (sb s)), (3, .string (sb t)), (64, .bool false)] (by kernel_rfl) (stands_c ((textB s) ++ x) ((textB t) ++ y) w182) ?_
        rintro _ _ ⟨rfl, rfl⟩
        refine ⟨_, rfl, ?_⟩
        refine GoS.run [64, 73, 74, 75] [.n, .n] _ [.inRegion (cops (csub (cd Tryd.f3) [1,1,1,1,1,1,0])) [15,16,17,18], .code (csub (cd Tryd.f3) [1,1,1,1,1,1,1])] [(64, .bool false), (73, .int .i64 (cmpT ((textB s) ++ x) ((textB t) ++ y))), (74, .string (sb s)), (75, .string (sb t))] w182 (by kernel_rfl) .nil ?_
        refine GoS.call [64, 73] 9 #[.string (sb s), .string (sb t)] (some 76) [.inRegion (cops (csub (cd Tryd.f3) [1,1,1,1,1,1,0])) [16,17,18], .code (csub (cd Tryd.f3) [1,1,1,1,1,1,1])] [(64, .bool false), (73, .int .i64 (cmpT ((textB s) ++ x) ((textB t) ++ y)))] (by kernel_rfl) (stands_c s t w182) ?_
        rintro _ _ ⟨rfl, rfl⟩
        refine ⟨_, rfl, ?_⟩
        have o186 : (IntKind.i64 = IntKind.i64) ∧ w182 = w182 ∧ Value.bool true = .bool ((cmpT ((textB s) ++ x) ((textB t) ++ y)) == (cmpT s t)) := ⟨rfl, rfl, congrArg Value.bool (Eq.symm (beq_iff_eq.2 (text_cmp (by assumption) _ _)))⟩
        refine GoS.run [12] [.h (.bool true), .n, .n] _ [.inRegion (cops (csub (cd Tryd.f3) [1,1,1,1,1,1,0])) [], .code (csub (cd Tryd.f3) [1,1,1,1,1,1,1])] [(12, .bool true)] w182 (by kernel_rfl) (.cons o186 .nil) ?_
        refine GoS.run [12] [.n] _ [.code (csub (cd Tryd.f3) [1,1,1,1,1,1,1])] [(12, .bool true)] w182 (by kernel_rfl) .nil ?_
        refine GoS.ret (fn := Tryd.f3) (v := (.bool true)) Tryd.func3 (by kernel_rfl) ?_
        rw [hR]
        exact ⟨rfl, (hM184.sub (List.nil_sublist _)).below⟩
    ·
      have h125p : ¬ (a > b) := of_decide_eq_false h125
      refine GoS.run [0, 1, 2, 3, 4, 5, 13] [.n] _ [.code (csub (cd Tryd.f3) [1,1,1,1])] [(0, .int .i64 a), (1, .int .i64 b), (2, .string (sb s)), (3, .string (sb t)), (4, .string (sb x)), (5, .string (sb y)), (13, .int .i64 0)] w (by kernel_rfl) .nil ?_
      refine GoS.run [0, 1, 2, 3, 4, 5, 13] [.n, .n, .n] _ [.inRegion (cops (csub (cd Tryd.f3) [1,1,1,1,0,0])) [0,1,2,3,4,5,6,7,8,9,10,11,12,13,14,15,16,17,18,19,20,21,22,23], .code (csub (cd Tryd.f3) [1,1,1,1,0,1]), .code (csub (cd Tryd.f3) [1,1,1,1,1])] [(0, .int .i64 a), (1, .int .i64 b), (2, .string (sb s)), (3, .string (sb t)), (4, .string (sb x)), (5, .string (sb y)), (13, .int .i64 0)] w (by kernel_rfl) .nil ?_
      refine GoS.call [0, 1, 2, 3, 4, 5, 13] 8 #[] (some 20) [.inRegion (cops (csub (cd Tryd.f3) [1,1,1,1,0,0])) [1,2,3,4,5,6,7,8,9,10,11,12,13,14,15,16,17,18,19,20,21,22,23], .code (csub (cd Tryd.f3) [1,1,1,1,0,1]), .code (csub (cd Tryd.f3) [1,1,1,1,1])] [(0, .int .i64 a), (1, .int .i64 b), (2, .string (sb s)), (3, .string (sb t)), (4, .string (sb x)), (5, .string (sb y)), (13, .int .i64 0)] (by kernel_rfl) (awake_c w) ?_
      rintro _ w187 ⟨rfl, m188⟩
      refine ⟨_, rfl, ?_⟩
      have hM189 := Mem.join hM0 m188
      obtain ⟨v190, w191, hr192, hM193⟩ := m_lit sT28 hM189 (n := 1) (parts := #[(0, .int .i64 a)]) (cs := [.int .i64 a]) (by decide) (by kernel_rfl) rfl
      have o194 : (Instr.buildSlice 28 1 #[(0, .int .i64 a)]).run Tryd.prog w187 = .ok v190 w191 := hr192
      refine GoS.run [0, 1, 2, 3, 4, 5, 13, 22, 24] [.n, .n, .n, .u (v190) (w191)] _ [.inRegion (cops (csub (cd Tryd.f3) [1,1,1,1,0,0])) [5,6,7,8,9,10,11,12,13,14,15,16,17,18,19,20,21,22,23], .code (csub (cd Tryd.f3) [1,1,1,1,0,1]), .code (csub (cd Tryd.f3) [1,1,1,1,1])] [(0, .int .i64 a), (1, .int .i64 b), (2, .string (sb s)), (3, .string (sb t)), (4, .string (sb x)), (5, .string (sb y)), (13, .int .i64 0), (22, .bool false), (24, v190)] w191 (by kernel_rfl) (.cons o194 .nil) ?_
      refine GoS.call [0, 1, 2, 3, 4, 5, 13, 22] 10 #[v190] (some 25) [.inRegion (cops (csub (cd Tryd.f3) [1,1,1,1,0,0])) [6,7,8,9,10,11,12,13,14,15,16,17,18,19,20,21,22,23], .code (csub (cd Tryd.f3) [1,1,1,1,0,1]), .code (csub (cd Tryd.f3) [1,1,1,1,1])] [(0, .int .i64 a), (1, .int .i64 b), (2, .string (sb s)), (3, .string (sb t)), (4, .string (sb x)), (5, .string (sb y)), (13, .int .i64 0), (22, .bool false)] (by kernel_rfl) (nums1_c v190 a (by omega) w191 (hM193.rd 0 rfl)) ?_
      rintro _ w195 ⟨rfl, m196⟩
      refine ⟨_, rfl, ?_⟩
      have hM197 := Mem.join hM193 m196
      obtain ⟨v198, w199, hr200, hM201⟩ := m_lit sT28 hM197 (n := 1) (parts := #[(0, .int .i64 b)]) (cs := [.int .i64 b]) (by decide) (by kernel_rfl) rfl
      have o202 : (Instr.buildSlice 28 1 #[(0, .int .i64 b)]).run Tryd.prog w195 = .ok v198 w199 := hr200
      have hM203 : Mem [] w w199 [⟨3, 1, v198, 1, [.int .i64 b]⟩] := hM201.sub (List.Sublist.cons_cons _ (List.Sublist.cons _ (List.Sublist.refl _)))
      refine GoS.run [0, 1, 2, 3, 4, 5, 13, 22, 25, 27] [.n, .u (v198) (w199)] _ [.inRegion (cops (csub (cd Tryd.f3) [1,1,1,1,0,0])) [8,9,10,11,12,13,14,15,16,17,18,19,20,21,22,23], .code (csub (cd Tryd.f3) [1,1,1,1,0,1]), .code (csub (cd Tryd.f3) [1,1,1,1,1])] [(0, .int .i64 a), (1, .int .i64 b), (2, .string (sb s)), (3, .string (sb t)), (4, .string (sb x)), (5, .string (sb y)), (13, .int .i64 0), (22, .bool false), (25, .string (sb (nb a))), (27, v198)] w199 (by kernel_rfl) (.cons o202 .nil) ?_
      refine GoS.call [0, 1, 2, 3, 4, 5, 13, 22, 25] 10 #[v198] (some 28) [.inRegion (cops (csub (cd Tryd.f3) [1,1,1,1,0,0])) [9,10,11,12,13,14,15,16,17,18,19,20,21,22,23], .code (csub (cd Tryd.f3) [1,1,1,1,0,1]), .code (csub (cd Tryd.f3) [1,1,1,1,1])] [(0, .int .i64 a), (1, .int .i64 b), (2, .string (sb s)), (3, .string (sb t)), (4, .string (sb x)), (5, .string (sb y)), (13, .int .i64 0), (22, .bool false), (25, .string (sb (nb a)))] (by kernel_rfl) (nums1_c v198 b (by omega) w199 (hM203.rd 0 rfl)) ?_
      rintro _ w204 ⟨rfl, m205⟩
      refine ⟨_, rfl, ?_⟩
      have hM206 := Mem.join hM203 m205
      refine GoS.call [0, 1, 2, 3, 4, 5, 13, 22] 9 #[.string (sb (nb a)), .string (sb (nb b))] (some 29) [.inRegion (cops (csub (cd Tryd.f3) [1,1,1,1,0,0])) [10,11,12,13,14,15,16,17,18,19,20,21,22,23], .code (csub (cd Tryd.f3) [1,1,1,1,0,1]), .code (csub (cd Tryd.f3) [1,1,1,1,1])] [(0, .int .i64 a), (1, .int .i64 b), (2, .string (sb s)), (3, .string (sb t)), (4, .string (sb x)), (5, .string (sb y)), (13, .int .i64 0), (22, .bool false)] (by kernel_rfl) (stands_c (nb a) (nb b) w204) ?_
      rintro _ _ ⟨rfl, rfl⟩
      refine ⟨_, rfl, ?_⟩
      have o207 : (IntKind.i64 = IntKind.i64) ∧ w204 = w204 ∧ Value.bool false = .bool ((cmpT (nb a) (nb b)) != 0) := ⟨rfl, rfl, congrArg Value.bool (Eq.symm (bne_eq_false_iff_eq.2 (by rw [num_cmp0 ha hb]; unfold cmpI; split <;> first | omega | (split <;> omega))))⟩
      have hM208 : Mem [] w w204 [] := hM206.sub (List.Sublist.cons _ (List.Sublist.refl _))
      refine GoS.run [0, 1, 2, 3, 4, 5, 13, 33, 34] [.n, .h (.bool false), .n, .n, .n] _ [.inRegion (cops (csub (cd Tryd.f3) [1,1,1,1,0,0])) [15,16,17,18,19,20,21,22,23], .code (csub (cd Tryd.f3) [1,1,1,1,0,1]), .code (csub (cd Tryd.f3) [1,1,1,1,1])] [(0, .int .i64 a), (1, .int .i64 b), (2, .string (sb s)), (3, .string (sb t)), (4, .string (sb x)), (5, .string (sb y)), (13, .int .i64 0), (33, .bool false), (34, .string (sb s))] w204 (by kernel_rfl) (.cons o207 .nil) ?_
      refine GoS.call [0, 1, 2, 3, 4, 5, 13, 33] 11 #[.string (sb s)] (some 35) [.inRegion (cops (csub (cd Tryd.f3) [1,1,1,1,0,0])) [16,17,18,19,20,21,22,23], .code (csub (cd Tryd.f3) [1,1,1,1,0,1]), .code (csub (cd Tryd.f3) [1,1,1,1,1])] [(0, .int .i64 a), (1, .int .i64 b), (2, .string (sb s)), (3, .string (sb t)), (4, .string (sb x)), (5, .string (sb y)), (13, .int .i64 0), (33, .bool false)] (by kernel_rfl) (text_c s (by omega) w204) ?_
      rintro _ w209 ⟨rfl, m210⟩
      refine ⟨_, rfl, ?_⟩
      have hM211 := Mem.join hM208 m210
      refine GoS.run [0, 1, 2, 3, 4, 5, 13, 33, 35, 36] [.n] _ [.inRegion (cops (csub (cd Tryd.f3) [1,1,1,1,0,0])) [17,18,19,20,21,22,23], .code (csub (cd Tryd.f3) [1,1,1,1,0,1]), .code (csub (cd Tryd.f3) [1,1,1,1,1])] [(0, .int .i64 a), (1, .int .i64 b), (2, .string (sb s)), (3, .string (sb t)), (4, .string (sb x)), (5, .string (sb y)), (13, .int .i64 0), (33, .bool false), (35, .string (sb (textB s))), (36, .string (sb t))] w209 (by kernel_rfl) .nil ?_
      refine GoS.call [0, 1, 2, 3, 4, 5, 13, 33, 35] 11 #[.string (sb t)] (some 37) [.inRegion (cops (csub (cd Tryd.f3) [1,1,1,1,0,0])) [18,19,20,21,22,23], .code (csub (cd Tryd.f3) [1,1,1,1,0,1]), .code (csub (cd Tryd.f3) [1,1,1,1,1])] [(0, .int .i64 a), (1, .int .i64 b), (2, .string (sb s)), (3, .string (sb t)), (4, .string (sb x)), (5, .string (sb y)), (13, .int .i64 0), (33, .bool false), (35, .string (sb (textB s)))] (by kernel_rfl) (text_c t (by omega) w209) ?_
      rintro _ w212 ⟨rfl, m213⟩
      refine ⟨_, rfl, ?_⟩
      have hM214 := Mem.join hM211 m213
      refine GoS.call [0, 1, 2, 3, 4, 5, 13, 33] 9 #[.string (sb (textB s)), .string (sb (textB t))] (some 38) [.inRegion (cops (csub (cd Tryd.f3) [1,1,1,1,0,0])) [19,20,21,22,23], .code (csub (cd Tryd.f3) [1,1,1,1,0,1]), .code (csub (cd Tryd.f3) [1,1,1,1,1])] [(0, .int .i64 a), (1, .int .i64 b), (2, .string (sb s)), (3, .string (sb t)), (4, .string (sb x)), (5, .string (sb y)), (13, .int .i64 0), (33, .bool false)] (by kernel_rfl) (stands_c (textB s) (textB t) w212) ?_
      rintro _ _ ⟨rfl, rfl⟩
      refine ⟨_, rfl, ?_⟩
      refine GoS.run [0, 1, 2, 3, 4, 5, 13, 33, 38, 39, 40] [.n, .n] _ [.inRegion (cops (csub (cd Tryd.f3) [1,1,1,1,0,0])) [21,22,23], .code (csub (cd Tryd.f3) [1,1,1,1,0,1]), .code (csub (cd Tryd.f3) [1,1,1,1,1])] [(0, .int .i64 a), (1, .int .i64 b), (2, .string (sb s)), (3, .string (sb t)), (4, .string (sb x)), (5, .string (sb y)), (13, .int .i64 0), (33, .bool false), (38, .int .i64 (cmpT (textB s) (textB t))), (39, .string (sb s)), (40, .string (sb t))] w212 (by kernel_rfl) .nil ?_
      refine GoS.call [0, 1, 2, 3, 4, 5, 13, 33, 38] 9 #[.string (sb s), .string (sb t)] (some 41) [.inRegion (cops (csub (cd Tryd.f3) [1,1,1,1,0,0])) [22,23], .code (csub (cd Tryd.f3) [1,1,1,1,0,1]), .code (csub (cd Tryd.f3) [1,1,1,1,1])] [(0, .int .i64 a), (1, .int .i64 b), (2, .string (sb s)), (3, .string (sb t)), (4, .string (sb x)), (5, .string (sb y)), (13, .int .i64 0), (33, .bool false), (38, .int .i64 (cmpT (textB s) (textB t)))] (by kernel_rfl) (stands_c s t w212) ?_
      rintro _ _ ⟨rfl, rfl⟩
      refine ⟨_, rfl, ?_⟩
      have o215 : (IntKind.i64 = IntKind.i64) ∧ w212 = w212 ∧ Value.bool false = .bool ((cmpT (textB s) (textB t)) != (cmpT s t)) := ⟨rfl, rfl, congrArg Value.bool (Eq.symm (bne_eq_false_iff_eq.2 (text_cmp0 _ _)))⟩
      have o216 : (binOp .eql 9 (.string (sb s)) (.string (sb t))).run Tryd.prog w212 = .ok (.bool (decide (s = t))) w212 := f_streq
      refine GoS.run [2, 3, 4, 5, 64] [.h (.bool false), .n, .n, .n, .n, .n, .n, .n, .n, .n, .n, .n, .n, .n, .n, .n, .n, .n, .n, .n, .n, .n, .n, .n, .n, .n, .n, .n, .n, .n, .n, .n, .h (.bool (decide (s = t))), .n] _ [.inRegion (cops (csub (cd Tryd.f3) [1,1,1,1,1,1,0])) [4,5,6,7,8,9,10,11,12,13,14,15,16,17,18], .code (csub (cd Tryd.f3) [1,1,1,1,1,1,1])] [(2, .string (sb s)), (3, .string (sb t)), (4, .string (sb x)), (5, .string (sb y)), (64, .bool (decide (s = t)))] w212 (by kernel_rfl) (.cons o215 (.cons o216 .nil)) ?_
      refine GoS.fork 64 (decide (s = t)) (by kernel_rfl) (fun h217 => ?_) (fun h217 => ?_)
      ·
        have h217p : s = t := of_decide_eq_true h217
        refine GoS.run [12] [.n, .n, .n, .n, .n, .n, .n, .n, .n, .n, .n, .n, .n, .n, .n] _ [.inRegion (cops (csub (cd Tryd.f3) [1,1,1,1,1,1,0])) [], .code (csub (cd Tryd.f3) [1,1,1,1,1,1,1])] [(12, .bool true)] w212 (by kernel_rfl) .nil ?_
        refine GoS.run [12] [.n] _ [.code (csub (cd Tryd.f3) [1,1,1,1,1,1,1])] [(12, .bool true)] w212 (by kernel_rfl) .nil ?_
        refine GoS.ret (fn := Tryd.f3) (v := (.bool true)) Tryd.func3 (by kernel_rfl) ?_
        rw [hR]
        exact ⟨rfl, (hM214.sub (List.nil_sublist _)).below⟩
      ·
        have h217p : ¬ (s = t) := of_decide_eq_false h217
        refine GoS.run [2, 3, 4, 5, 64, 65] [.n] _ [.inRegion (cops (csub (cd Tryd.f3) [1,1,1,1,1,1,0])) [5,6,7,8,9,10,11,12,13,14,15,16,17,18], .code (csub (cd Tryd.f3) [1,1,1,1,1,1,1])] [(2, .string (sb s)), (3, .string (sb t)), (4, .string (sb x)), (5, .string (sb y)), (64, .bool false), (65, .string (sb s))] w212 (by kernel_rfl) .nil ?_
        refine GoS.call [2, 3, 4, 5, 64] 11 #[.string (sb s)] (some 66) [.inRegion (cops (csub (cd Tryd.f3) [1,1,1,1,1,1,0])) [6,7,8,9,10,11,12,13,14,15,16,17,18], .code (csub (cd Tryd.f3) [1,1,1,1,1,1,1])] [(2, .string (sb s)), (3, .string (sb t)), (4, .string (sb x)), (5, .string (sb y)), (64, .bool false)] (by kernel_rfl) (text_c s (by omega) w212) ?_
        rintro _ w218 ⟨rfl, m219⟩
        refine ⟨_, rfl, ?_⟩
        have hM220 := Mem.join hM214 m219
        have o221 : (binOp .add 9 (.string (sb (textB s))) (.string (sb x))).run Tryd.prog w218 = .ok (.string (sb ((textB s) ++ x))) w218 := f_stradd (by have q1 := numB_len a; have q2 := numB_len b; have q3 := textB_len s; have q4 := textB_len t; first | omega | (rw [bytesOf_len']; omega))
        refine GoS.run [2, 3, 5, 64, 68, 69] [.n, .h (.string (sb ((textB s) ++ x))), .n] _ [.inRegion (cops (csub (cd Tryd.f3) [1,1,1,1,1,1,0])) [9,10,11,12,13,14,15,16,17,18], .code (csub (cd Tryd.f3) [1,1,1,1,1,1,1])] [(2, .string (sb s)), (3, .string (sb t)), (5, .string (sb y)), (64, .bool false), (68, .string (sb ((textB s) ++ x))), (69, .string (sb t))] w218 (by kernel_rfl) (.cons o221 .nil) ?_
        refine GoS.call [2, 3, 5, 64, 68] 11 #[.string (sb t)] (some 70) [.inRegion (cops (csub (cd Tryd.f3) [1,1,1,1,1,1,0])) [10,11,12,13,14,15,16,17,18], .code (csub (cd Tryd.f3) [1,1,1,1,1,1,1])] [(2, .string (sb s)), (3, .string (sb t)), (5, .string (sb y)), (64, .bool false), (68, .string (sb ((textB s) ++ x)))] (by kernel_rfl) (text_c t (by omega) w218) ?_
        rintro _ w222 ⟨rfl, m223⟩
        refine ⟨_, rfl, ?_⟩
        have hM224 := Mem.join hM220 m223
        have o225 : (binOp .add 9 (.string (sb (textB t))) (.string (sb y))).run Tryd.prog w222 = .ok (.string (sb ((textB t) ++ y))) w222 := f_stradd (by have q1 := numB_len a; have q2 := numB_len b; have q3 := textB_len s; have q4 := textB_len t; first | omega | (rw [bytesOf_len']; omega))
        refine GoS.run [2, 3, 64, 68, 72] [.n, .h (.string (sb ((textB t) ++ y)))] _ [.inRegion (cops (csub (cd Tryd.f3) [1,1,1,1,1,1,0])) [12,13,14,15,16,17,18], .code (csub (cd Tryd.f3) [1,1,1,1,1,1,1])] [(2, .string (sb s)), (3, .string (sb t)), (64, .bool false), (68, .string (sb ((textB s) ++ x))), (72, .string (sb ((textB t) ++ y)))] w222 (by kernel_rfl) (.cons o225 .nil) ?_
        refine GoS.call [2, 3, 64] 9 #[.string (sb ((textB s) ++ x)), .string (sb ((textB t) ++ y))] (some 73) [.inRegion (cops (csub (cd Tryd.f3) [1,1,1,1,1,1,0])) [13,14,15,16,17,18], .code (csub (cd Tryd.f3) [1,1,1,1,1,1,1])] [(2, .string (sb s)), (3, .string (sb t)), (64, .bool false)] (by kernel_rfl) (stands_c ((textB s) ++ x) ((textB t) ++ y) w222) ?_
        rintro _ _ ⟨rfl, rfl⟩
        refine ⟨_, rfl, ?_⟩
        refine GoS.run [64, 73, 74, 75] [.n, .n] _ [.inRegion (cops (csub (cd Tryd.f3) [1,1,1,1,1,1,0])) [15,16,17,18], .code (csub (cd Tryd.f3) [1,1,1,1,1,1,1])] [(64, .bool false), (73, .int .i64 (cmpT ((textB s) ++ x) ((textB t) ++ y))), (74, .string (sb s)), (75, .string (sb t))] w222 (by kernel_rfl) .nil ?_
        refine GoS.call [64, 73] 9 #[.string (sb s), .string (sb t)] (some 76) [.inRegion (cops (csub (cd Tryd.f3) [1,1,1,1,1,1,0])) [16,17,18], .code (csub (cd Tryd.f3) [1,1,1,1,1,1,1])] [(64, .bool false), (73, .int .i64 (cmpT ((textB s) ++ x) ((textB t) ++ y)))] (by kernel_rfl) (stands_c s t w222) ?_
        rintro _ _ ⟨rfl, rfl⟩
        refine ⟨_, rfl, ?_⟩
        have o226 : (IntKind.i64 = IntKind.i64) ∧ w222 = w222 ∧ Value.bool true = .bool ((cmpT ((textB s) ++ x) ((textB t) ++ y)) == (cmpT s t)) := ⟨rfl, rfl, congrArg Value.bool (Eq.symm (beq_iff_eq.2 (text_cmp (by assumption) _ _)))⟩
        refine GoS.run [12] [.h (.bool true), .n, .n] _ [.inRegion (cops (csub (cd Tryd.f3) [1,1,1,1,1,1,0])) [], .code (csub (cd Tryd.f3) [1,1,1,1,1,1,1])] [(12, .bool true)] w222 (by kernel_rfl) (.cons o226 .nil) ?_
        refine GoS.run [12] [.n] _ [.code (csub (cd Tryd.f3) [1,1,1,1,1,1,1])] [(12, .bool true)] w222 (by kernel_rfl) .nil ?_
        refine GoS.ret (fn := Tryd.f3) (v := (.bool true)) Tryd.func3 (by kernel_rfl) ?_
        rw [hR]
        exact ⟨rfl, (hM224.sub (List.nil_sublist _)).below⟩


end Go.Proofs.YtmjkbmlcclmdkaaDoor
