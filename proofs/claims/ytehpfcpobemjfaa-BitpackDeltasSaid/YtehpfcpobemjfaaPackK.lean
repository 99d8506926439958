/-
  The walks of awake and of BitpackPacks.
-/
import Derived.Test.YtehpfcpobemjfaaPackB
import Derived.Test.YtehpfcpobemjfaaPackD
import Derived.Test.YtehpfcpobemjfaaPackE
import Derived.Test.YtehpfcpobemjfaaPackH
import Derived.Test.YtehpfcpobemjfaaPackJ
import Derived.Test.YtehpfcpobemjfaaPackL
import Derived.Test.YtehpfcpobemjfaaPackN
namespace Go.Proofs.Ytehpfcpobemjfaa
open Go Go.Gw Go.NumP Go.LiveP Go.PackP Go.RowKit
set_option linter.unusedVariables false
set_option linter.unusedSimpArgs false


set_option maxHeartbeats 400000 in
theorem awake_c (w : World) :
    Calls Try.prog 10 #[] w (fun e w' => e = .returned (.bool true) ∧ Mem [] w w' []) := by
  obtain ⟨R, hR⟩ : ∃ R : Ending → World → Prop, R = (fun e w' => e = .returned (.bool true) ∧ Mem [] w w' []) := ⟨_, rfl⟩
  rw [← hR]
  refine GoS.enter (n := 35) Try.func10 (by kernel_rfl) rfl [] (by kernel_rfl) (by kernel_rfl) ?_
  have hM0 := Mem.start w
  obtain ⟨v1, w2, hr3, hM4⟩ := m_lit sT22 hM0 (n := 4) (parts := #[(0, .int .i64 1), (1, .int .i64 2), (2, .int .i64 3), (3, .int .i64 0)]) (cs := [.int .i64 1, .int .i64 2, .int .i64 3, .int .i64 0]) (by decide) (by kernel_rfl) rfl
  have o5 : (Instr.buildSlice 22 4 #[(0, .int .i64 1), (1, .int .i64 2), (2, .int .i64 3), (3, .int .i64 0)]).run Try.prog w = .ok v1 w2 := hr3
  refine GoS.run [7] [.n, .n, .n, .n, .n, .n, .u (v1) (w2)] _ [.inRegion (cops (csub (cd Try.f10) [1,0])) [1,2,3,4,5,6], .code (csub (cd Try.f10) [1,1])] [(7, v1)] w2 (by kernel_rfl) (.cons o5 .nil) ?_
  refine GoS.call [] 8 #[v1] (some 8) [.inRegion (cops (csub (cd Try.f10) [1,0])) [2,3,4,5,6], .code (csub (cd Try.f10) [1,1])] [] (by kernel_rfl) (pack_c v1 ([1, 2, 3, 0] : List Int) w2 (hM4.rd 0 rfl) (by decide) (by decide)) ?_
  rintro _ w6 ⟨rfl, m7⟩
  refine ⟨_, rfl, ?_⟩
  have hM8 := Mem.join hM4 m7
  have hM9 : Mem [] w w6 [] := hM8.sub (List.Sublist.cons _ (List.Sublist.refl _))
  refine GoS.run [1, 2] [.n, .n, .n, .n, .n, .n, .n, .n] _ [.inRegion (cops (csub (cd Try.f10) [1,1,0])) [0,1,2,3,4,5,6,7], .code (csub (cd Try.f10) [1,1,1])] [(1, .string (sb (packT ([1, 2, 3, 0] : List Int)))), (2, .int .i64 (packE ([1, 2, 3, 0] : List Int)))] w6 (by kernel_rfl) .nil ?_
  refine GoS.call [1, 2] 12 #[.string (sb ([130, 3, 53] : List UInt8))] (some 12) [.inRegion (cops (csub (cd Try.f10) [1,1,0])) [1,2,3,4,5,6,7], .code (csub (cd Try.f10) [1,1,1])] [(1, .string (sb (packT ([1, 2, 3, 0] : List Int)))), (2, .int .i64 (packE ([1, 2, 3, 0] : List Int)))] (by kernel_rfl) (read_c ([130, 3, 53] : List UInt8) (by decide) w6) ?_
  rintro _ w10 ⟨v13, rfl, m11⟩
  refine ⟨_, rfl, ?_⟩
  have hM12 := Mem.join hM9 m11
  have o18 : (binOp .eql 9 (.string (sb (packT ([1, 2, 3, 0] : List Int)))) (.string (sb ([132, 2, 57] : List UInt8)))).run Try.prog w10 = .ok (.bool true) w10 := f_streq_yes (by decide +kernel)
  have o19 : (IntKind.i64 = IntKind.i64) ∧ w10 = w10 ∧ Value.bool true = .bool ((packE ([1, 2, 3, 0] : List Int)) == 0) := ⟨rfl, rfl, congrArg Value.bool (Eq.symm (by decide +kernel))⟩
  obtain ⟨v14, w15, hr16, hM17⟩ := m_lit sT22 hM12 (n := 2) (parts := #[(0, .int .i64 5), (1, .int .i64 6)]) (cs := [.int .i64 5, .int .i64 6]) (by decide) (by kernel_rfl) rfl
  have o20 : (Instr.buildSlice 22 2 #[(0, .int .i64 5), (1, .int .i64 6)]).run Try.prog w10 = .ok v14 w15 := hr16
  refine GoS.run [4, 5, 22, 23, 24] [.n, .n, .n, .n, .n, .n, .n, .n, .n, .n, .n, .h (.bool true), .n, .n, .h (.bool true), .n, .n, .n, .u (v14) (w15)] _ [.inRegion (cops (csub (cd Try.f10) [1,1,1,0])) [9,10,11,12,13,14,15,16,17,18,19], .code (csub (cd Try.f10) [1,1,1,1])] [(4, .int .i64 (((readP ([130, 3, 53] : List UInt8)).2.1 : Nat) : Int)), (5, .int .i64 ((readP ([130, 3, 53] : List UInt8)).2.2)), (22, .bool true), (23, v13), (24, v14)] w15 (by kernel_rfl) (.cons o18 (.cons o19 (.cons o20 .nil))) ?_
  refine GoS.call [4, 5, 22] 11 #[v13, v14] (some 25) [.inRegion (cops (csub (cd Try.f10) [1,1,1,0])) [10,11,12,13,14,15,16,17,18,19], .code (csub (cd Try.f10) [1,1,1,1])] [(4, .int .i64 (((readP ([130, 3, 53] : List UInt8)).2.1 : Nat) : Int)), (5, .int .i64 ((readP ([130, 3, 53] : List UInt8)).2.2)), (22, .bool true)] (by kernel_rfl) (numbers_yes v13 v14 ((readP ([130, 3, 53] : List UInt8)).1) ([5, 6] : List Int) w15 (hM17.rd 1 rfl) (hM17.rd 0 rfl) (by rw [wake_read])) ?_
  rintro _ w21 ⟨rfl, d22⟩
  refine ⟨_, rfl, ?_⟩
  have hM23 := hM17.dr d22
  have o24 : (IntKind.i64 = IntKind.i64) ∧ w21 = w21 ∧ Value.bool true = .bool ((((readP ([130, 3, 53] : List UInt8)).2.1 : Nat) : Int) == 3) := ⟨rfl, rfl, congrArg Value.bool (Eq.symm (by rw [wake_read]; decide +kernel))⟩
  have o25 : (IntKind.i64 = IntKind.i64) ∧ w21 = w21 ∧ Value.bool true = .bool ((readP ([130, 3, 53] : List UInt8)).2.2 == 0) := ⟨rfl, rfl, congrArg Value.bool (Eq.symm (by rw [wake_read]; decide +kernel))⟩
  have hM26 : Mem [] w w21 [] := hM23.sub (List.Sublist.cons _ (List.Sublist.cons _ (List.Sublist.refl _)))
  refine GoS.run [0] [.n, .n, .n, .h (.bool true), .n, .n, .n, .h (.bool true), .n, .n, .n] _ [.code (csub (cd Try.f10) [1,1,1,1])] [(0, .bool true)] w21 (by kernel_rfl) (.cons o24 (.cons o25 .nil)) ?_
  refine GoS.ret (fn := Try.f10) (v := (.bool true)) Try.func10 (by kernel_rfl) ?_
  rw [hR]
  exact ⟨ret_bool (by decide +kernel), hM26⟩

set_option maxHeartbeats 400000 in
theorem lpacks_c (v : Value) (l : List Int) (w : World) (hv : Rd w 1 v l.length (ivals .i64 l)) (hw : ∀ n ∈ l, -9223372036854775808 ≤ n ∧ n ≤ 9223372036854775807) (hl : l.length * 8 ≤ 140737488351232) :
    Calls Try.prog 3 #[v] w (fun e w' => e = .returned (.bool true) ∧ Below w.heap.size w w') := by
  have hw9 : ∀ n ∈ l, n ≤ 9223372036854775807 := fun n hn => (hw n hn).2
  obtain ⟨R, hR⟩ : ∃ R : Ending → World → Prop, R = (fun e w' => e = .returned (.bool true) ∧ Below w.heap.size w w') := ⟨_, rfl⟩
  rw [← hR]
  refine GoS.enter (n := 54) Try.func3 (by kernel_rfl) rfl [(0, v)] (by kernel_rfl) (by kernel_rfl) ?_
  have hM0 := Mem.start w
  obtain ⟨v1, w2, hr3, hM4⟩ := m_lit sT22 hM0 (n := 0) (parts := #[]) (cs := []) (by decide) (by kernel_rfl) rfl
  have o19 : (Instr.buildSlice 22 0 #[]).run Try.prog w = .ok v1 w2 := hr3
  obtain ⟨v5, w6, hr7, hM8⟩ := m_append sT22 hM4 0 rfl (hv.kept0 hM4.kept) (ivals_one .i64 l) (by (first | omega | (simp; done) | (simp; omega))) (by (first | omega | (simp; done) | (simp; omega))) 22
  have hM9 : Mem [] w w6 [⟨3, 1, v5, (List.length l), (ivals .i64 l)⟩] := hM8.cast (by simp [ivals, svals, bvals, nvals, u8s, Nat.add_assoc])
  have o20 : (Builtin.append_ #[22, 22] 22 #[v1, v]).run Try.prog w2 = .ok v5 w6 := hr7
  obtain ⟨v10, w11, hr12, hM13⟩ := m_lit sT22 hM9 (n := 1) (parts := #[(0, .int .i64 77)]) (cs := [.int .i64 77]) (by decide) (by kernel_rfl) rfl
  have o21 : (Instr.buildSlice 22 1 #[(0, .int .i64 77)]).run Try.prog w6 = .ok v10 w11 := hr12
  obtain ⟨v14, w15, hr16, hM17⟩ := m_append sT22 hM13 1 rfl (hM13.rd 0 rfl) (by intro u hu; simp at hu; rcases hu with rfl <;> rfl) (by (first | omega | (simp; done) | (simp; omega))) (by (first | omega | (simp; done) | (simp; omega))) 22
  have hM18 : Mem [] w w15 [⟨3, 1, v10, 1, [.int .i64 77]⟩, ⟨3, 1, v14, (List.length (l ++ ([77] : List Int))), (ivals .i64 (l ++ ([77] : List Int)))⟩] := hM17.cast (by simp [ivals, svals, bvals, nvals, u8s, Nat.add_assoc])
  have o22 : (Builtin.append_ #[22, 22] 22 #[v5, v10]).run Try.prog w11 = .ok v14 w15 := hr16
  have o23 : (Builtin.len_ #[22] 3 #[v]).run Try.prog w15 = .ok (.int .i64 (((List.length l) : Nat) : Int)) w15 := f_slen sT22 (hv.kept0 hM18.kept) 3 _
  have o24 : (Instr.sliceAt 22 (v14) none (some (.int .i64 (((List.length l) : Nat) : Int))) none).run Try.prog w15 = .ok (cut v14 (List.length l)) w15 := f_cut0 sT22 (hM18.rd 1 rfl) (List.length l) (by omega) (by (first | omega | (simp; done) | (simp; omega))) _ _
  have hM25 : Mem [] w w15 [⟨3, 1, v14, (List.length (l ++ ([77] : List Int))), (ivals .i64 (l ++ ([77] : List Int)))⟩] := hM18.sub (List.Sublist.cons _ (List.Sublist.cons_cons _ (List.Sublist.refl _)))
  refine GoS.run [0, 3, 17] [.n, .n, .n, .n, .n, .n, .u (v1) (w2), .n, .u (v5) (w6), .u (v10) (w11), .u (v14) (w15), .n, .h (.int .i64 (((List.length l) : Nat) : Int)), .h ((cut v14 (List.length l))), .n, .n, .n, .n, .n] _ [.inRegion (cops (csub (cd Try.f3) [1,1,0])) [1,2,3,4,5,6], .code (csub (cd Try.f3) [1,1,1])] [(0, v), (3, (cut v14 (List.length l))), (17, (cut v14 (List.length l)))] w15 (by kernel_rfl) (.cons o19 (.cons o20 (.cons o21 (.cons o22 (.cons o23 (.cons o24 .nil)))))) ?_
  refine GoS.call [0, 3] 8 #[(cut v14 (List.length l))] (some 18) [.inRegion (cops (csub (cd Try.f3) [1,1,0])) [2,3,4,5,6], .code (csub (cd Try.f3) [1,1,1])] [(0, v), (3, (cut v14 (List.length l)))] (by kernel_rfl) (pack_c (cut v14 (List.length l)) l w15 (rd_cut1 (m := (List.length l)) (ys := (ivals .i64 l)) (hM25.rd 0 rfl) (by (first | omega | (simp; done) | (simp; omega))) (by simp [ivals, nvals, u8s, svals, bvals, List.map_take])) (by assumption) (by omega)) ?_
  rintro _ w26 ⟨rfl, m27⟩
  refine ⟨_, rfl, ?_⟩
  have hM28 := Mem.join hM25 m27
  refine GoS.run [0, 3, 4, 5, 22] [.n, .n, .n, .n, .n, .n, .n, .n, .n] _ [.inRegion (cops (csub (cd Try.f3) [1,1,1,0])) [1,2,3,4,5,6], .code (csub (cd Try.f3) [1,1,1,1])] [(0, v), (3, (cut v14 (List.length l))), (4, .string (sb (packT l))), (5, .int .i64 (packE l)), (22, v)] w26 (by kernel_rfl) .nil ?_
  refine GoS.call [0, 3, 4, 5] 9 #[v] (some 23) [.inRegion (cops (csub (cd Try.f3) [1,1,1,0])) [2,3,4,5,6], .code (csub (cd Try.f3) [1,1,1,1])] [(0, v), (3, (cut v14 (List.length l))), (4, .string (sb (packT l))), (5, .int .i64 (packE l))] (by kernel_rfl) (rpack_c v l w26 (hv.kept0 hM28.kept) (by assumption) (by omega)) ?_
  rintro _ w29 ⟨rfl, m30⟩
  refine ⟨_, rfl, ?_⟩
  have hM31 := Mem.join hM28 m30
  refine GoS.run [0, 3, 4, 5, 6, 7] [.n, .n, .n, .n, .n, .n, .n, .n] _ [.inRegion (cops (csub (cd Try.f3) [1,1,1,1,0])) [0,1,2,3,4,5,6,7,8,9,10,11,12,13,14,15,16,17,18,19,20,21,22,23,24,25,26,27,28], .code (csub (cd Try.f3) [1,1,1,1,1])] [(0, v), (3, (cut v14 (List.length l))), (4, .string (sb (packT l))), (5, .int .i64 (packE l)), (6, .string (sb (packT l))), (7, .int .i64 (packE l))] w29 (by kernel_rfl) .nil ?_
  refine GoS.call [0, 3, 4, 5, 6, 7] 10 #[] (some 26) [.inRegion (cops (csub (cd Try.f3) [1,1,1,1,0])) [1,2,3,4,5,6,7,8,9,10,11,12,13,14,15,16,17,18,19,20,21,22,23,24,25,26,27,28], .code (csub (cd Try.f3) [1,1,1,1,1])] [(0, v), (3, (cut v14 (List.length l))), (4, .string (sb (packT l))), (5, .int .i64 (packE l)), (6, .string (sb (packT l))), (7, .int .i64 (packE l))] (by kernel_rfl) (awake_c w29) ?_
  rintro _ w32 ⟨rfl, m33⟩
  refine ⟨_, rfl, ?_⟩
  have hM34 := Mem.join hM31 m33
  have o35 : (binOp .eql 9 (.string (sb (packT l))) (.string (sb (packT l)))).run Try.prog w32 = .ok (.bool true) w32 := f_streq_yes (rfl)
  have o36 : (IntKind.i64 = IntKind.i64) ∧ w32 = w32 ∧ Value.bool true = .bool ((packE l) == (packE l)) := ⟨rfl, rfl, congrArg Value.bool (Eq.symm (beq_self_eq_true _))⟩
  refine GoS.run [0, 3, 37, 38, 39] [.n, .n, .n, .h (.bool true), .n, .n, .n, .n, .h (.bool true), .n, .n, .n, .n] _ [.inRegion (cops (csub (cd Try.f3) [1,1,1,1,0])) [14,15,16,17,18,19,20,21,22,23,24,25,26,27,28], .code (csub (cd Try.f3) [1,1,1,1,1])] [(0, v), (3, (cut v14 (List.length l))), (37, .bool true), (38, (cut v14 (List.length l))), (39, v)] w32 (by kernel_rfl) (.cons o35 (.cons o36 .nil)) ?_
  refine GoS.call [0, 3, 37] 11 #[(cut v14 (List.length l)), v] (some 40) [.inRegion (cops (csub (cd Try.f3) [1,1,1,1,0])) [15,16,17,18,19,20,21,22,23,24,25,26,27,28], .code (csub (cd Try.f3) [1,1,1,1,1])] [(0, v), (3, (cut v14 (List.length l))), (37, .bool true)] (by kernel_rfl) (numbers_yes (cut v14 (List.length l)) v l l w32 (rd_cut1 (m := (List.length l)) (ys := (ivals .i64 l)) (hM34.rd 0 rfl) (by (first | omega | (simp; done) | (simp; omega))) (by simp [ivals, nvals, u8s, svals, bvals, List.map_take])) (hv.kept0 hM34.kept) (rfl)) ?_
  rintro _ w37 ⟨rfl, d38⟩
  refine ⟨_, rfl, ?_⟩
  have hM39 := hM34.dr d38
  have o43 : (Builtin.len_ #[22] 3 #[v]).run Try.prog w37 = .ok (.int .i64 (((List.length l) : Nat) : Int)) w37 := f_slen sT22 (hv.kept0 hM39.kept) 3 _
  have o44 : (binOp .add 3 (.int .i64 (((List.length l) : Nat) : Int)) (.int .i64 1)).run Try.prog w37 = .ok (.int .i64 ((((List.length l) + 1) : Nat) : Int)) w37 := f_add (by rw [show (((List.length l) : Nat) : Int) + 1 = ((((List.length l) + 1) : Nat) : Int) by omega]; exact IntWalk.i64_in _ (by omega))
  have o45 : (Instr.sliceAt 22 ((cut v14 (List.length l))) none (some (.int .i64 ((((List.length l) + 1) : Nat) : Int))) none).run Try.prog w37 = .ok (cut v14 ((List.length l) + 1)) w37 := f_cut sT22 (hM39.rd 0 rfl) (List.length l) ((List.length l) + 1) (by omega) (by (first | omega | (simp; done) | (simp; omega))) _ _
  have o46 : (Builtin.len_ #[22] 3 #[v]).run Try.prog w37 = .ok (.int .i64 (((List.length l) : Nat) : Int)) w37 := f_slen sT22 (hv.kept0 hM39.kept) 3 _
  obtain ⟨p40, hp41, hq42⟩ := rd_at (i := (((List.length l) : Nat) : Int)) sT22 (rd_cut1 (m := ((List.length l) + 1)) (ys := (ivals .i64 (List.take ((List.length l) + 1) (l ++ ([77] : List Int))))) (hM39.rd 0 rfl) (by (first | omega | (simp; done) | (simp; omega))) (by simp [ivals, nvals, u8s, svals, bvals, List.map_take])) (List.length l) (by omega) (by (first | omega | (simp; done) | (simp; omega)))
  have o47 : (Instr.indexAt 22 ((cut v14 ((List.length l) + 1))) (.int .i64 (((List.length l) : Nat) : Int))).run Try.prog w37 = .ok (.pointer (some p40)) w37 := hq42 _ _
  have o48 : (Instr.loadAt 3 (.pointer (some p40))).run Try.prog w37 = .ok (.int .i64 (List.getD (List.take ((List.length l) + 1) (l ++ ([77] : List Int))) (List.length l) 0)) w37 := at_load pE3 (rd_cut1 (m := ((List.length l) + 1)) (ys := (ivals .i64 (List.take ((List.length l) + 1) (l ++ ([77] : List Int))))) (hM39.rd 0 rfl) (by (first | omega | (simp; done) | (simp; omega))) (by simp [ivals, nvals, u8s, svals, bvals, List.map_take])) hp41 (ivals_at (by (first | omega | (simp; done) | (simp; omega))))
  have o49 : (IntKind.i64 = IntKind.i64) ∧ w37 = w37 ∧ Value.bool true = .bool ((List.getD (List.take ((List.length l) + 1) (l ++ ([77] : List Int))) (List.length l) 0) == 77) := ⟨rfl, rfl, congrArg Value.bool (Eq.symm (by simp))⟩
  have hM50 : Mem [] w w37 [] := hM39.sub (List.Sublist.cons _ (List.Sublist.refl _))
  refine GoS.run [2] [.n, .n, .n, .n, .h (.int .i64 (((List.length l) : Nat) : Int)), .h (.int .i64 ((((List.length l) + 1) : Nat) : Int)), .h ((cut v14 ((List.length l) + 1))), .n, .h (.int .i64 (((List.length l) : Nat) : Int)), .h (.pointer (some p40)), .h (.int .i64 (List.getD (List.take ((List.length l) + 1) (l ++ ([77] : List Int))) (List.length l) 0)), .h (.bool true), .n, .n, .n] _ [.code (csub (cd Try.f3) [1,1,1,1,1])] [(2, .bool true)] w37 (by kernel_rfl) (.cons o43 (.cons o44 (.cons o45 (.cons o46 (.cons o47 (.cons o48 (.cons o49 .nil))))))) ?_
  refine GoS.ret (fn := Try.f3) (v := (.bool true)) Try.func3 (by kernel_rfl) ?_
  rw [hR]
  exact ⟨rfl, hM50.below⟩


end Go.Proofs.Ytehpfcpobemjfaa
