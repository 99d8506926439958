/-
  The walks of one and awake.
-/
import Derived.Test.YtnhplkkbpmijdaaQryJ
import Derived.Test.YtnhplkkbpmijdaaQryK
import Derived.Test.YtnhplkkbpmijdaaQryL
namespace Go.Proofs.Ytnhplkkbpmijdaa
open Go Go.Gw Go.UtfP Go.TokP Go.QryP Go.RowKit
set_option linter.unusedVariables false
set_option linter.unusedSimpArgs false


set_option maxHeartbeats 400000 in
theorem qone_c (w : World) :
    Calls Try.prog 18 #[] w (fun e w' => ∃ (u : Value) (T : List Row), e = .returned ((qO 7 u)) ∧ QT T oneQ u ∧ Mem [] w w' T) := by
  obtain ⟨R, hR⟩ : ∃ R : Ending → World → Prop, R = (fun e w' => ∃ (u : Value) (T : List Row), e = .returned ((qO 7 u)) ∧ QT T oneQ u ∧ Mem [] w w' T) := ⟨_, rfl⟩
  rw [← hR]
  refine GoS.enter (n := 7) Try.func18 (by kernel_rfl) rfl [] (by kernel_rfl) (by kernel_rfl) ?_
  have hM0 := Mem.start w
  obtain ⟨b1, w2, hr3, hM4⟩ := m_alloc oT25 hM0
  have hM5 : Mem [] w w2 [⟨25, 8, (obj b1), 1, (qP 0 (.slice none 0 0))⟩] := hM4
  obtain ⟨v6, w7, hr8, hM9⟩ := m_lit sT23 hM5 (n := 1) (parts := #[(0, .agg #[.int .i64 6, .string (sb ([110] : List UInt8)), .string (sb ([])), .int .i64 0, .int .i64 0, .int .u64 0, .int .u64 5, .slice none 0 0])]) (cs := [.int .i64 6, .string (sb ([110] : List UInt8)), .string (sb ([])), .int .i64 0, .int .i64 0, .int .u64 0, .int .u64 5, .slice none 0 0]) (by decide) (by kernel_rfl) rfl
  have o18 : (Instr.build 25 #[(0, .int .i64 9), (7, v6)]).run Try.prog w7 = .ok ((qO 9 v6)) w7 := (by obtain ⟨a0_, m0_, c0_, e0_⟩ : ∃ a m c, v6 = Value.slice a m c := rd_form (hM9.rd 0 rfl); rw [e0_]; kernel_rfl)
  obtain ⟨v10, w11, hr12, hM13⟩ := m_lit sT23 hM9 (n := 2) (parts := #[(0, .agg #[.int .i64 1, .string (sb ([116] : List UInt8)), .string (sb ([102, 111, 120] : List UInt8)), .int .i64 0, .int .i64 0, .int .u64 0, .int .u64 0, .slice none 0 0]), (1, (qO 9 v6))]) (cs := [.int .i64 1, .string (sb ([116] : List UInt8)), .string (sb ([102, 111, 120] : List UInt8)), .int .i64 0, .int .i64 0, .int .u64 0, .int .u64 0, .slice none 0 0, .int .i64 9, .string (sb ([])), .string (sb ([])), .int .i64 0, .int .i64 0, .int .u64 0, .int .u64 0, v6]) (by decide) (by kernel_rfl) rfl
  have o19 : (Instr.build 25 #[(0, .int .i64 7), (7, v10)]).run Try.prog w11 = .ok ((qO 7 v10)) w11 := (by obtain ⟨a0_, m0_, c0_, e0_⟩ : ∃ a m c, v10 = Value.slice a m c := rd_form (hM13.rd 0 rfl); rw [e0_]; kernel_rfl)
  obtain ⟨w14, hr15, hM16⟩ := c_stores (ys := (qP 7 v10)) aE25 hM13 2 rfl (cel_obj b1 0) rfl (by decide) (by intro u hu; simp at hu; rcases hu with rfl | rfl | rfl | rfl | rfl | rfl | rfl | rfl <;> first | rfl | exact (rd_one (hM13.rd 0 rfl)))
  have hM17 : Mem [] w w14 [⟨25, 8, v10, 2, [.int .i64 1, .string (sb ([116] : List UInt8)), .string (sb ([102, 111, 120] : List UInt8)), .int .i64 0, .int .i64 0, .int .u64 0, .int .u64 0, .slice none 0 0, .int .i64 9, .string (sb ([])), .string (sb ([])), .int .i64 0, .int .i64 0, .int .u64 0, .int .u64 0, v6]⟩, ⟨25, 8, v6, 1, [.int .i64 6, .string (sb ([110] : List UInt8)), .string (sb ([])), .int .i64 0, .int .i64 0, .int .u64 0, .int .u64 5, .slice none 0 0]⟩, ⟨25, 8, (obj b1), 1, (qP 7 v10)⟩] := hM16
  have o20 : (Instr.storeAt 25 (pq b1) ((qO 7 v10))).run Try.prog w11 = .ok () w14 ∧ undef = undef := ⟨hr15, rfl⟩
  refine GoS.run [0] [.n, .n, .u (pq b1) (w2), .n, .n, .n, .n, .n, .u (v6) (w7), .h ((qO 9 v6)), .u (v10) (w11), .h ((qO 7 v10)), .u (undef) (w14), .n] _ [.code (csub (cd Try.f18) [1,1])] [(0, pq b1)] w14 (by kernel_rfl) (.cons hr3 (.cons hr8 (.cons o18 (.cons hr12 (.cons o19 (.cons o20 .nil)))))) ?_
  have o21 : (Instr.loadAt 25 (pq b1)).run Try.prog w14 = .ok ((qO 7 v10)) w14 := c_loads (ys := (qP 7 v10)) aE25 (hM17.rd 2 rfl) (cel_obj b1 0) rfl (by intro j u hj; match j, hj with | 0, hj => exact hj | 1, hj => exact hj | 2, hj => exact hj | 3, hj => exact hj | 4, hj => exact hj | 5, hj => exact hj | 6, hj => exact hj | 7, hj => exact hj | n + 8, hj => cases hj)
  refine GoS.retC (fn := Try.f18) (rs := [.cell 0 25]) [(qO 7 v10)] (v := ((qO 7 v10))) Try.func18 (by kernel_rfl) (ResC.cell (by kernel_rfl) o21 ResC.nil) rfl ?_
  rw [hR]
  have hM22 : Mem [] w w14 [⟨25, 8, v6, 1, [.int .i64 6, .string (sb ([110] : List UInt8)), .string (sb ([])), .int .i64 0, .int .i64 0, .int .u64 0, .int .u64 5, .slice none 0 0]⟩, ⟨25, 8, v10, 2, [.int .i64 1, .string (sb ([116] : List UInt8)), .string (sb ([102, 111, 120] : List UInt8)), .int .i64 0, .int .i64 0, .int .u64 0, .int .u64 0, .slice none 0 0, .int .i64 9, .string (sb ([])), .string (sb ([])), .int .i64 0, .int .i64 0, .int .u64 0, .int .u64 0, v6]⟩, ⟨25, 8, (obj b1), 1, (qP 7 v10)⟩] := hM17.perm (pS pR)
  have hM23 : Mem [] w w14 [⟨25, 8, v10, 2, [.int .i64 1, .string (sb ([116] : List UInt8)), .string (sb ([102, 111, 120] : List UInt8)), .int .i64 0, .int .i64 0, .int .u64 0, .int .u64 0, .slice none 0 0, .int .i64 9, .string (sb ([])), .string (sb ([])), .int .i64 0, .int .i64 0, .int .u64 0, .int .u64 0, v6]⟩, ⟨25, 8, v6, 1, [.int .i64 6, .string (sb ([110] : List UInt8)), .string (sb ([])), .int .i64 0, .int .i64 0, .int .u64 0, .int .u64 5, .slice none 0 0]⟩, ⟨25, 8, (obj b1), 1, (qP 7 v10)⟩] := hM22.perm (pS pR)
  have hN := (hM23.sub (cc (cc (List.nil_sublist _)))).nilrow 25 8
  exact ⟨v10, _, rfl, one_tree (E := 25) (u := v6) (List.mem_cons_of_mem _ (List.mem_cons_self ..)) (List.mem_cons_of_mem _ (List.mem_cons_of_mem _ (List.mem_cons_self ..))) (List.mem_cons_self ..), hN⟩

set_option maxHeartbeats 1000000 in
theorem awake_c (w : World) :
    Calls Try.prog 8 #[] w (fun e w' => e = .returned (.bool true) ∧ Mem [] w w' []) := by
  obtain ⟨R, hR⟩ : ∃ R : Ending → World → Prop, R = (fun e w' => e = .returned (.bool true) ∧ Mem [] w w' []) := ⟨_, rfl⟩
  rw [← hR]
  refine GoS.enter (n := 29) Try.func8 (by kernel_rfl) rfl [] (by kernel_rfl) (by kernel_rfl) ?_
  have hM0 := Mem.start w
  refine GoS.run [] [.n, .n, .n, .n, .n, .n] _ [.inRegion (cops (csub (cd Try.f8) [1,0])) [0,1,2,3,4,5,6], .code (csub (cd Try.f8) [1,1])] [] w (by kernel_rfl) .nil ?_
  refine GoS.call [] 18 #[] (some 4) [.inRegion (cops (csub (cd Try.f8) [1,0])) [1,2,3,4,5,6], .code (csub (cd Try.f8) [1,1])] [] (by kernel_rfl) (qone_c w) ?_
  rintro _ w1 ⟨u2, T3, rfl, hqt5, m4⟩
  refine ⟨_, rfl, ?_⟩
  have hM6 : Mem [] w w1 (T3) := Mem.join0 (A := []) hM0 m4
  refine GoS.call [] 10 #[(qO 7 u2)] (some 5) [.inRegion (cops (csub (cd Try.f8) [1,0])) [2,3,4,5,6], .code (csub (cd Try.f8) [1,1])] [] (by kernel_rfl) (size_c oneQ (opH 7) rfl u2 (QT.rd hM6 (fun r_ h_ => h_) hqt5) (by first | omega | (rw [bulk_two]; omega) | (rw [bulk_one]; omega) | (refine Nat.le_trans (bulk_put (by omega)) (by omega)) | decide +kernel)) ?_
  rintro _ w7 ⟨rfl, m8⟩
  refine ⟨_, rfl, ?_⟩
  have hM9 : Mem [] w w7 (T3) := Mem.join (R := []) hM6 m8
  refine GoS.run [1, 2] [.n, .n, .n, .n, .n, .n, .n, .n] _ [.inRegion (cops (csub (cd Try.f8) [1,1,0])) [0,1,2,3,4,5,6,7,8,9,10,11,12,13,14,15,16,17,18,19,20,21], .code (csub (cd Try.f8) [1,1,1])] [(1, .int .i64 (((sizeQ oneQ) : Nat) : Int)), (2, .int .i64 (((deepQ oneQ) : Nat) : Int))] w7 (by kernel_rfl) .nil ?_
  refine GoS.call [1, 2] 18 #[] (some 8) [.inRegion (cops (csub (cd Try.f8) [1,1,0])) [1,2,3,4,5,6,7,8,9,10,11,12,13,14,15,16,17,18,19,20,21], .code (csub (cd Try.f8) [1,1,1])] [(1, .int .i64 (((sizeQ oneQ) : Nat) : Int)), (2, .int .i64 (((deepQ oneQ) : Nat) : Int))] (by kernel_rfl) (qone_c w7) ?_
  rintro _ w10 ⟨u11, T12, rfl, hqt14, m13⟩
  refine ⟨_, rfl, ?_⟩
  have hM15 : Mem [] w w10 ((T12 ++ T3)) := Mem.joinT (A := []) (T := T3) hM9 m13
  refine GoS.call [1, 2] 13 #[(qO 7 u11)] (some 9) [.inRegion (cops (csub (cd Try.f8) [1,1,0])) [2,3,4,5,6,7,8,9,10,11,12,13,14,15,16,17,18,19,20,21], .code (csub (cd Try.f8) [1,1,1])] [(1, .int .i64 (((sizeQ oneQ) : Nat) : Int)), (2, .int .i64 (((deepQ oneQ) : Nat) : Int))] (by kernel_rfl) (check_c oneQ (opH 7) rfl u11 (QT.rd hM15 (fun r_ h_ => List.mem_append_left _ (h_)) hqt14) (by first | omega | (rw [bulk_two]; omega) | (rw [bulk_one]; omega) | (refine Nat.le_trans (bulk_put (by omega)) (by omega)) | decide +kernel)) ?_
  rintro _ w16 ⟨rfl, m17⟩
  refine ⟨_, rfl, ?_⟩
  have hM18 : Mem [] w w16 ((T12 ++ T3)) := Mem.join (R := []) hM15 m17
  have o19 : (IntKind.i64 = IntKind.i64) ∧ w16 = w16 ∧ Value.bool true = .bool ((checkQ oneQ) == 0) := ⟨rfl, rfl, congrArg Value.bool (Eq.symm (by decide +kernel))⟩
  have o20 : (IntKind.i64 = IntKind.i64) ∧ w16 = w16 ∧ Value.bool true = .bool ((((sizeQ oneQ) : Nat) : Int) == 4) := ⟨rfl, rfl, congrArg Value.bool (Eq.symm (by decide +kernel))⟩
  have o21 : (IntKind.i64 = IntKind.i64) ∧ w16 = w16 ∧ Value.bool true = .bool ((((deepQ oneQ) : Nat) : Int) == 3) := ⟨rfl, rfl, congrArg Value.bool (Eq.symm (by decide +kernel))⟩
  refine GoS.run [19] [.h (.bool true), .n, .n, .h (.bool true), .n, .n, .n, .h (.bool true), .n, .n] _ [.inRegion (cops (csub (cd Try.f8) [1,1,0])) [12,13,14,15,16,17,18,19,20,21], .code (csub (cd Try.f8) [1,1,1])] [(19, .bool true)] w16 (by kernel_rfl) (.cons o19 (.cons o20 (.cons o21 .nil))) ?_
  refine GoS.call [19] 18 #[] (some 20) [.inRegion (cops (csub (cd Try.f8) [1,1,0])) [13,14,15,16,17,18,19,20,21], .code (csub (cd Try.f8) [1,1,1])] [(19, .bool true)] (by kernel_rfl) (qone_c w16) ?_
  rintro _ w22 ⟨u23, T24, rfl, hqt26, m25⟩
  refine ⟨_, rfl, ?_⟩
  have hM27 : Mem [] w w22 (((T24 ++ T12) ++ T3)) := (by simpa only [List.nil_append, List.append_assoc] using Mem.joinT (A := []) (T := (T12 ++ T3)) hM18 m25)
  refine GoS.call [19, 20] 18 #[] (some 21) [.inRegion (cops (csub (cd Try.f8) [1,1,0])) [14,15,16,17,18,19,20,21], .code (csub (cd Try.f8) [1,1,1])] [(19, .bool true), (20, (qO 7 u23))] (by kernel_rfl) (qone_c w22) ?_
  rintro _ w28 ⟨u29, T30, rfl, hqt32, m31⟩
  refine ⟨_, rfl, ?_⟩
  have hM33 : Mem [] w w28 ((((T30 ++ T24) ++ T12) ++ T3)) := (by simpa only [List.nil_append, List.append_assoc] using Mem.joinT (A := []) (T := ((T24 ++ T12) ++ T3)) hM27 m31)
  refine GoS.call [19] 16 #[(qO 7 u23), (qO 7 u29)] (some 22) [.inRegion (cops (csub (cd Try.f8) [1,1,0])) [15,16,17,18,19,20,21], .code (csub (cd Try.f8) [1,1,1])] [(19, .bool true)] (by kernel_rfl) (same_c oneQ (opH 7) rfl u23 (QT.rd hM33 (fun r_ h_ => List.mem_append_left _ (List.mem_append_left _ (List.mem_append_right _ (h_)))) hqt26) (by first | omega | (rw [bulk_two]; omega) | (rw [bulk_one]; omega) | (refine Nat.le_trans (bulk_put (by omega)) (by omega)) | decide +kernel) oneQ (opH 7) rfl u29 (QT.rd hM33 (fun r_ h_ => List.mem_append_left _ (List.mem_append_left _ (List.mem_append_left _ (h_)))) hqt32) (by first | omega | (rw [bulk_two]; omega) | (rw [bulk_one]; omega) | (refine Nat.le_trans (bulk_put (by omega)) (by omega)) | decide +kernel)) ?_
  rintro _ w34 ⟨rfl, m35⟩
  refine ⟨_, rfl, ?_⟩
  have hM36 : Mem [] w w34 ((((T30 ++ T24) ++ T12) ++ T3)) := Mem.join (R := []) hM33 m35
  refine GoS.run [24] [.n, .n] _ [.inRegion (cops (csub (cd Try.f8) [1,1,0])) [17,18,19,20,21], .code (csub (cd Try.f8) [1,1,1])] [(24, .bool (sameQ oneQ oneQ))] w34 (by kernel_rfl) .nil ?_
  refine GoS.fork 24 (sameQ oneQ oneQ) (by kernel_rfl) (fun h37 => ?_) (fun h37 => ?_)
  ·
    refine GoS.run [24, 25] [.n] _ [.inRegion (cops (csub (cd Try.f8) [1,1,0])) [18,19,20,21], .code (csub (cd Try.f8) [1,1,1])] [(24, .bool true), (25, (qO 0 (.slice none 0 0)))] w34 (by kernel_rfl) .nil ?_
    refine GoS.call [24] 13 #[(qO 0 (.slice none 0 0))] (some 26) [.inRegion (cops (csub (cd Try.f8) [1,1,0])) [19,20,21], .code (csub (cd Try.f8) [1,1,1])] [(24, .bool true)] (by kernel_rfl) (check_c (Q.mk (opH 0) []) (opH 0) rfl (.slice none 0 0) (RdQ.nil (w34) _) (by first | omega | (rw [bulk_two]; omega) | (rw [bulk_one]; omega) | (refine Nat.le_trans (bulk_put (by omega)) (by omega)) | decide +kernel)) ?_
    rintro _ w38 ⟨rfl, m39⟩
    refine ⟨_, rfl, ?_⟩
    have hM40 : Mem [] w w38 ((((T30 ++ T24) ++ T12) ++ T3)) := Mem.join (R := []) hM36 m39
    have o41 : (IntKind.i64 = IntKind.i64) ∧ w38 = w38 ∧ Value.bool true = .bool ((checkQ (Q.mk (opH 0) [])) == 20) := ⟨rfl, rfl, congrArg Value.bool (Eq.symm (by decide +kernel))⟩
    refine GoS.run [0] [.h (.bool true), .n, .n] _ [.inRegion (cops (csub (cd Try.f8) [1,1,0])) [], .code (csub (cd Try.f8) [1,1,1])] [(0, .bool true)] w38 (by kernel_rfl) (.cons o41 .nil) ?_
    refine GoS.run [0] [.n] _ [.code (csub (cd Try.f8) [1,1,1])] [(0, .bool true)] w38 (by kernel_rfl) .nil ?_
    refine GoS.ret (fn := Try.f8) (v := (.bool true)) Try.func8 (by kernel_rfl) ?_
    rw [hR]
    exact ⟨rfl, hM40.sub (List.nil_sublist _)⟩
  ·
    exact absurd (h37) (by rw [same_refl]; decide)


end Go.Proofs.Ytnhplkkbpmijdaa
