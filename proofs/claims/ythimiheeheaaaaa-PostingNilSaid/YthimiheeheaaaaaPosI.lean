/-
  The walk of PostingNil.
-/
import Derived.Test.YthimiheeheaaaaaPosH
import Derived.Test.YthimiheeheaaaaaCell
namespace Go.Proofs.Ythimiheeheaaaaa
open Go Go.Gw Go.NumP Go.LiveP Go.PackP Go.PostP Go.RowKit
set_option linter.unusedVariables false
set_option linter.unusedSimpArgs false


set_option maxHeartbeats 400000 in
theorem npost_c (w : World) :
    Calls Try.prog 19 #[.pointer none] w (fun e w' => e = .returned (.tuple #[.agg #[.int .i64 0, .slice none 0 0], .bool false]) ∧ Mem [] w w' []) := by
  obtain ⟨R, hR⟩ : ∃ R : Ending → World → Prop, R = (fun e w' => e = .returned (.tuple #[.agg #[.int .i64 0, .slice none 0 0], .bool false]) ∧ Mem [] w w' []) := ⟨_, rfl⟩
  rw [← hR]
  refine GoS.enter (n := 44) Try.func19 (by kernel_rfl) rfl [(0, .pointer none)] (by kernel_rfl) (by kernel_rfl) ?_
  have hM0 := Mem.start w
  obtain ⟨b1, w2, hr3, hM4⟩ := m_alloc oT40 hM0
  have hM5 : Mem [] w w2 [⟨40, 2, (obj b1), 1, [.int .i64 0, .slice none 0 0]⟩] := hM4
  have o6 : (Instr.alloc 40 true (.tuple #[])).run Try.prog w = .ok (.pointer (some (⟨b1, 0, none⟩))) w2 := hr3
  refine GoS.run [0, 2] [.n, .n, .u (.pointer (some (⟨b1, 0, none⟩))) (w2), .n, .n, .n, .n] _ [.code (csub (cd Try.f19) [1,0,0]), .code (csub (cd Try.f19) [1,0,1]), .code (csub (cd Try.f19) [1,1])] [(0, .pointer none), (2, .pointer (some (⟨b1, 0, none⟩)))] w2 (by kernel_rfl) (.cons o6 .nil) ?_
  refine GoS.drawC (fun W_ => Kept [] w2 W_) 1 (by kernel_rfl) [0, 2, 25] [.u (.pointer none) w2, .u (.bool true) w2, .u (.bool true) w2, .u (.bool true) w2, .u (.bool true) w2, .u (.bool true) w2] (fun W_ => []) [(.pointer none, .pointer none), (.bool true, .bool true), (.bool true, .bool true), (.bool true, .bool true), (.bool true, .bool true), (.bool true, .bool true)] [(0, .pointer none), (2, .pointer (some (⟨b1, 0, none⟩))), (25, .bool true)] (by kernel_rfl) (by kernel_rfl) ([(25, .bool true), (24, undef), (23, undef), (22, undef), (21, undef), (20, undef), (19, undef), (18, undef), (17, undef), (16, undef), (15, undef), (14, .bool true), (13, .bool true), (12, undef), (11, undef), (10, undef), (9, undef), (8, undef), (7, .bool true), (6, .bool true), (5, .pointer none)] ++ [(0, .pointer none), (2, .pointer (some (⟨b1, 0, none⟩)))]) (fun W_ => by kernel_rfl) (by kernel_rfl) (.cons rfl (.cons rfl (.cons rfl (.cons rfl (.cons rfl (.cons rfl Obs.nil)))))) (Kept.drewN _ _ 1) (fun W_ hW_ => Obs.nil) (fun w7 hw8 => ?_)
  have hM9 := hM5.ext hw8
  obtain ⟨w10, hr11, hM12⟩ := c_stores (ys := [.int .i64 0, .slice none 0 0]) aE40 hM9 0 rfl (cel_obj b1 0) rfl (by decide) (by intro u hu; simp at hu; rcases hu with rfl | rfl <;> first | rfl)
  have hM13 : Mem [] w w10 [⟨40, 2, (obj b1), 1, [.int .i64 0, .slice none 0 0]⟩] := hM12
  have o14 : (Instr.storeAt 40 (.pointer (some (⟨b1, 0, none⟩))) (.agg #[.int .i64 0, .slice none 0 0])).run Try.prog w7 = .ok () w10 ∧ undef = undef := ⟨hr11, rfl⟩
  refine GoS.run [2, 3] [.n, .n, .n, .n, .u (undef) (w10), .n, .n] _ [.code (csub (cd Try.f19) [1,0,1,0,1]), .code (csub (cd Try.f19) [1,1])] [(2, .pointer (some (⟨b1, 0, none⟩))), (3, .bool false)] w10 (by kernel_rfl) (.cons o14 .nil) ?_
  have o15 : (Instr.loadAt 40 (.pointer (some (⟨b1, 0, none⟩)))).run Try.prog w10 = .ok (.agg #[.int .i64 0, .slice none 0 0]) w10 := c_loads (ys := [.int .i64 0, .slice none 0 0]) aE40 (hM13.rd 0 rfl) (cel_obj b1 0) rfl (by intro j u hj; match j, hj with | 0, hj => exact hj | 1, hj => exact hj | n + 2, hj => cases hj)
  refine GoS.retC (fn := Try.f19) (rs := [.cell 2 40, .tmp 3]) [.agg #[.int .i64 0, .slice none 0 0], .bool false] (v := (.tuple #[.agg #[.int .i64 0, .slice none 0 0], .bool false])) Try.func19 (by kernel_rfl) (ResC.cell (by kernel_rfl) o15 (ResC.tmp (by kernel_rfl) ResC.nil)) rfl ?_
  rw [hR]
  exact ⟨rfl, hM13.sub (List.nil_sublist _)⟩

set_option maxHeartbeats 400000 in
theorem nnext_c (w : World) :
    Calls Try.prog 20 #[.pointer none] w (fun e w' => e = .returned (.bool false) ∧ Mem [] w w' []) := by
  obtain ⟨R, hR⟩ : ∃ R : Ending → World → Prop, R = (fun e w' => e = .returned (.bool false) ∧ Mem [] w w' []) := ⟨_, rfl⟩
  rw [← hR]
  refine GoS.enter (n := 29) Try.func20 (by kernel_rfl) rfl [(0, .pointer none)] (by kernel_rfl) (by kernel_rfl) ?_
  have hM0 := Mem.start w
  refine GoS.run [2] [.n, .n, .n, .n, .n, .n, .n, .n, .n, .n, .n, .n, .n, .n, .n] _ [.code (csub (cd Try.f20) [1,0,1,0,1]), .code (csub (cd Try.f20) [1,1])] [(2, .bool false)] w (by kernel_rfl) .nil ?_
  refine GoS.ret (fn := Try.f20) (v := (.bool false)) Try.func20 (by kernel_rfl) ?_
  rw [hR]
  exact ⟨rfl, hM0.sub (List.nil_sublist _)⟩

set_option maxHeartbeats 400000 in
theorem nadv_c (w : World) (d : Int) :
    Calls Try.prog 21 #[.pointer none, .int .i64 d] w (fun e w' => e = .returned (.bool false) ∧ Mem [] w w' []) := by
  obtain ⟨R, hR⟩ : ∃ R : Ending → World → Prop, R = (fun e w' => e = .returned (.bool false) ∧ Mem [] w w' []) := ⟨_, rfl⟩
  rw [← hR]
  refine GoS.enter (n := 48) Try.func21 (by kernel_rfl) rfl [(0, .pointer none), (1, .int .i64 d)] (by kernel_rfl) (by kernel_rfl) ?_
  have hM0 := Mem.start w
  refine GoS.run [4] [.n, .n, .n, .n, .n, .n, .n, .n, .n, .n, .n, .n, .n, .n, .n] _ [.code (csub (cd Try.f21) [1,0,1,0,1]), .code (csub (cd Try.f21) [1,1])] [(4, .bool false)] w (by kernel_rfl) .nil ?_
  refine GoS.ret (fn := Try.f21) (v := (.bool false)) Try.func21 (by kernel_rfl) ?_
  rw [hR]
  exact ⟨rfl, hM0.sub (List.nil_sublist _)⟩

set_option maxHeartbeats 400000 in
theorem lnil_c (d : Int) (w : World) :
    Calls Try.prog 6 #[.int .i64 d] w (fun e w' => e = .returned (.bool true) ∧ Below w.heap.size w w') := by
  obtain ⟨R, hR⟩ : ∃ R : Ending → World → Prop, R = (fun e w' => e = .returned (.bool true) ∧ Below w.heap.size w w') := ⟨_, rfl⟩
  rw [← hR]
  refine GoS.enter (n := 38) Try.func6 (by kernel_rfl) rfl [(0, .int .i64 d)] (by kernel_rfl) (by kernel_rfl) ?_
  have hM0 := Mem.start w
  refine GoS.run [0, 3, 7] [.n, .n, .n, .n, .n, .n, .n, .n, .n, .n, .n] _ [.inRegion (cops (csub (cd Try.f6) [1,1,0])) [1,2,3,4,5,6,7], .code (csub (cd Try.f6) [1,1,1])] [(0, .int .i64 d), (3, .pointer none), (7, .pointer none)] w (by kernel_rfl) .nil ?_
  refine GoS.call [0, 3] 19 #[.pointer none] (some 8) [.inRegion (cops (csub (cd Try.f6) [1,1,0])) [2,3,4,5,6,7], .code (csub (cd Try.f6) [1,1,1])] [(0, .int .i64 d), (3, .pointer none)] (by kernel_rfl) (npost_c w) ?_
  rintro _ w1 ⟨rfl, m2⟩
  refine ⟨_, rfl, ?_⟩
  have hM3 := Mem.join hM0 m2
  obtain ⟨b4, w5, hr6, hM7⟩ := m_alloc oT40 hM3
  have hM8 : Mem [] w w5 [⟨40, 2, (obj b4), 1, [.int .i64 0, .slice none 0 0]⟩] := hM7
  have o13 : (Instr.alloc 40 true (.tuple #[])).run Try.prog w1 = .ok (.pointer (some (⟨b4, 0, none⟩))) w5 := hr6
  obtain ⟨w9, hr10, hM11⟩ := c_stores (ys := [.int .i64 0, .slice none 0 0]) aE40 hM8 0 rfl (cel_obj b4 0) rfl (by decide) (by intro u hu; simp at hu; rcases hu with rfl | rfl <;> first | rfl)
  have hM12 : Mem [] w w9 [⟨40, 2, (obj b4), 1, [.int .i64 0, .slice none 0 0]⟩] := hM11
  have o14 : (Instr.storeAt 40 (.pointer (some (⟨b4, 0, none⟩))) (.agg #[.int .i64 0, .slice none 0 0])).run Try.prog w5 = .ok () w9 ∧ undef = undef := ⟨hr10, rfl⟩
  refine GoS.run [0, 3, 4, 5] [.n, .n, .n, .u (.pointer (some (⟨b4, 0, none⟩))) (w5), .u (undef) (w9), .n, .n, .n, .n] _ [.inRegion (cops (csub (cd Try.f6) [1,1,1,0])) [0,1,2,3,4,5,6,7,8,9,10,11,12,13,14,15,16,17,18,19,20,21,22,23,24,25,26,27], .code (csub (cd Try.f6) [1,1,1,1])] [(0, .int .i64 d), (3, .pointer none), (4, .pointer (some (⟨b4, 0, none⟩))), (5, .bool false)] w9 (by kernel_rfl) (.cons o13 (.cons o14 .nil)) ?_
  refine GoS.call [0, 3, 4, 5] 13 #[] (some 11) [.inRegion (cops (csub (cd Try.f6) [1,1,1,0])) [1,2,3,4,5,6,7,8,9,10,11,12,13,14,15,16,17,18,19,20,21,22,23,24,25,26,27], .code (csub (cd Try.f6) [1,1,1,1])] [(0, .int .i64 d), (3, .pointer none), (4, .pointer (some (⟨b4, 0, none⟩))), (5, .bool false)] (by kernel_rfl) (awake_c w9) ?_
  rintro _ w15 ⟨rfl, m16⟩
  refine ⟨_, rfl, ?_⟩
  have hM17 := Mem.join hM12 m16
  refine GoS.run [0, 3, 4, 5, 12, 13] [.n, .n] _ [.inRegion (cops (csub (cd Try.f6) [1,1,1,0])) [3,4,5,6,7,8,9,10,11,12,13,14,15,16,17,18,19,20,21,22,23,24,25,26,27], .code (csub (cd Try.f6) [1,1,1,1])] [(0, .int .i64 d), (3, .pointer none), (4, .pointer (some (⟨b4, 0, none⟩))), (5, .bool false), (12, .bool true), (13, .pointer none)] w15 (by kernel_rfl) .nil ?_
  refine GoS.call [0, 3, 4, 5, 12] 20 #[.pointer none] (some 14) [.inRegion (cops (csub (cd Try.f6) [1,1,1,0])) [4,5,6,7,8,9,10,11,12,13,14,15,16,17,18,19,20,21,22,23,24,25,26,27], .code (csub (cd Try.f6) [1,1,1,1])] [(0, .int .i64 d), (3, .pointer none), (4, .pointer (some (⟨b4, 0, none⟩))), (5, .bool false), (12, .bool true)] (by kernel_rfl) (nnext_c w15) ?_
  rintro _ w18 ⟨rfl, m19⟩
  refine ⟨_, rfl, ?_⟩
  have hM20 := Mem.join hM17 m19
  refine GoS.run [4, 5, 17, 18, 19] [.n, .n, .n, .n, .n] _ [.inRegion (cops (csub (cd Try.f6) [1,1,1,0])) [9,10,11,12,13,14,15,16,17,18,19,20,21,22,23,24,25,26,27], .code (csub (cd Try.f6) [1,1,1,1])] [(4, .pointer (some (⟨b4, 0, none⟩))), (5, .bool false), (17, .bool true), (18, .pointer none), (19, .int .i64 d)] w18 (by kernel_rfl) .nil ?_
  refine GoS.call [4, 5, 17] 21 #[.pointer none, .int .i64 d] (some 20) [.inRegion (cops (csub (cd Try.f6) [1,1,1,0])) [10,11,12,13,14,15,16,17,18,19,20,21,22,23,24,25,26,27], .code (csub (cd Try.f6) [1,1,1,1])] [(4, .pointer (some (⟨b4, 0, none⟩))), (5, .bool false), (17, .bool true)] (by kernel_rfl) (nadv_c w18 d) ?_
  rintro _ w21 ⟨rfl, m22⟩
  refine ⟨_, rfl, ?_⟩
  have hM23 := Mem.join hM20 m22
  have o24 : (Instr.loadAt 3 (.pointer (some (⟨b4, 0, none⟩)))).run Try.prog w21 = .ok (.int .i64 0) w21 := c_load pE3 (hM23.rd 0 rfl) (cel_obj b4 0) rfl
  have o25 : (IntKind.i64 = IntKind.i64) ∧ w21 = w21 ∧ Value.bool true = .bool (0 == 0) := ⟨rfl, rfl, congrArg Value.bool (Eq.symm (beq_self_eq_true _))⟩
  have o26 : (Instr.loadAt 38 (.pointer (some (⟨b4, 1, none⟩)))).run Try.prog w21 = .ok (.slice none 0 0) w21 := c_load pE38 (hM23.rd 0 rfl) (cel_obj b4 1) rfl
  have o27 : (IntKind.i64 = IntKind.i64) ∧ w21 = w21 ∧ Value.bool true = .bool (0 == 0) := ⟨rfl, rfl, congrArg Value.bool (Eq.symm (beq_self_eq_true _))⟩
  have hM28 : Mem [] w w21 [] := hM23.sub (List.Sublist.cons _ (List.Sublist.refl _))
  refine GoS.run [2] [.n, .n, .n, .n, .n, .n, .n, .n, .h (.int .i64 0), .h (.bool true), .n, .n, .n, .h (.slice none 0 0), .n, .h (.bool true), .n, .n, .n] _ [.code (csub (cd Try.f6) [1,1,1,1])] [(2, .bool true)] w21 (by kernel_rfl) (.cons o24 (.cons o25 (.cons o26 (.cons o27 .nil)))) ?_
  refine GoS.ret (fn := Try.f6) (v := (.bool true)) Try.func6 (by kernel_rfl) ?_
  rw [hR]
  exact ⟨rfl, hM28.below⟩


end Go.Proofs.Ythimiheeheaaaaa
