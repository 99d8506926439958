/-
  The walks of awake and of PostingPacks.
-/
import Derived.Test.YthimiheeheaaaaaPosC
import Derived.Test.YthimiheeheaaaaaPosD
import Derived.Test.YthimiheeheaaaaaPosE
import Derived.Test.YthimiheeheaaaaaPosF
import Derived.Test.YthimiheeheaaaaaPosG
import Derived.Test.YthimiheeheaaaaaPostW
namespace Go.Proofs.Ythimiheeheaaaaa
open Go Go.Gw Go.NumP Go.LiveP Go.PackP Go.PostP Go.RowKit
set_option linter.unusedVariables false
set_option linter.unusedSimpArgs false


set_option maxHeartbeats 400000 in
theorem awake_c (w : World) :
    Calls Try.prog 13 #[] w (fun e w' => e = .returned (.bool true) ∧ Mem [] w w' []) := by
  obtain ⟨R, hR⟩ : ∃ R : Ending → World → Prop, R = (fun e w' => e = .returned (.bool true) ∧ Mem [] w w' []) := ⟨_, rfl⟩
  rw [← hR]
  refine GoS.enter (n := 49) Try.func13 (by kernel_rfl) rfl [] (by kernel_rfl) (by kernel_rfl) ?_
  have hM0 := Mem.start w
  obtain ⟨v1, w2, hr3, hM4⟩ := m_lit sT38 hM0 (n := 2) (parts := #[(0, .int .i64 0), (1, .int .i64 2)]) (cs := [.int .i64 0, .int .i64 2]) (by decide) (by kernel_rfl) rfl
  have o13 : (Instr.buildSlice 38 2 #[(0, .int .i64 0), (1, .int .i64 2)]).run Try.prog w = .ok v1 w2 := hr3
  have o14 : (Instr.build 40 #[(0, .int .i64 3), (1, v1)]).run Try.prog w2 = .ok (.agg #[.int .i64 3, v1]) w2 := (by obtain ⟨a0_, m0_, c0_, e0_⟩ : ∃ a m c, v1 = Value.slice a m c := rd_form (hM4.rd 0 rfl); rw [e0_]; kernel_rfl)
  obtain ⟨v5, w6, hr7, hM8⟩ := m_lit sT38 hM4 (n := 1) (parts := #[(0, .int .i64 1)]) (cs := [.int .i64 1]) (by decide) (by kernel_rfl) rfl
  have o15 : (Instr.buildSlice 38 1 #[(0, .int .i64 1)]).run Try.prog w2 = .ok v5 w6 := hr7
  have o16 : (Instr.build 40 #[(0, .int .i64 4), (1, v5)]).run Try.prog w6 = .ok (.agg #[.int .i64 4, v5]) w6 := (by obtain ⟨a0_, m0_, c0_, e0_⟩ : ∃ a m c, v5 = Value.slice a m c := rd_form (hM8.rd 0 rfl); rw [e0_]; kernel_rfl)
  obtain ⟨v9, w10, hr11, hM12⟩ := m_lit sT22 hM8 (n := 2) (parts := #[(0, .agg #[.int .i64 3, v1]), (1, .agg #[.int .i64 4, v5])]) (cs := [.int .i64 3, v1, .int .i64 4, v5]) (by decide) (by kernel_rfl) rfl
  have o17 : (Instr.buildSlice 22 2 #[(0, .agg #[.int .i64 3, v1]), (1, .agg #[.int .i64 4, v5])]).run Try.prog w6 = .ok v9 w10 := hr11
  refine GoS.run [10] [.n, .n, .n, .n, .n, .n, .u (v1) (w2), .h (.agg #[.int .i64 3, v1]), .u (v5) (w6), .h (.agg #[.int .i64 4, v5]), .u (v9) (w10)] _ [.inRegion (cops (csub (cd Try.f13) [1,0])) [5,6,7,8,9,10], .code (csub (cd Try.f13) [1,1])] [(10, v9)] w10 (by kernel_rfl) (.cons o13 (.cons o14 (.cons o15 (.cons o16 (.cons o17 .nil))))) ?_
  refine GoS.call [] 11 #[v9] (some 11) [.inRegion (cops (csub (cd Try.f13) [1,0])) [6,7,8,9,10], .code (csub (cd Try.f13) [1,1])] [] (by kernel_rfl) (ppack_c v9 ([(3, ([0, 2] : List Int)), (4, ([1] : List Int))] : PS) (fun j_ => if j_ = 0 then v1 else v5) (hM12.rd 0 rfl) (fun j_ hj_ => match j_, hj_ with | 0, _ => (hM12.rd 2 rfl) | 1, _ => (hM12.rd 1 rfl) | n_ + 2, h_ => absurd h_ (by simp))) ?_
  rintro _ w18 ⟨rfl, m19⟩
  refine ⟨_, rfl, ?_⟩
  have hM20 := Mem.join hM12 m19
  have hM21 : Mem [] w w18 [] := hM20.sub (List.Sublist.cons _ (List.Sublist.cons _ (List.Sublist.cons _ (List.Sublist.refl _))))
  refine GoS.run [1, 2, 15] [.n, .n, .n, .n, .n, .n, .n, .n, .n] _ [.inRegion (cops (csub (cd Try.f13) [1,1,0])) [1,2,3,4,5,6], .code (csub (cd Try.f13) [1,1,1])] [(1, .string (sb (packP ([(3, ([0, 2] : List Int)), (4, ([1] : List Int))] : PS)))), (2, .int .i64 (ckP (-1) ([(3, ([0, 2] : List Int)), (4, ([1] : List Int))] : PS))), (15, .string (sb (packP ([(3, ([0, 2] : List Int)), (4, ([1] : List Int))] : PS))))] w18 (by kernel_rfl) .nil ?_
  refine GoS.call [1, 2] 17 #[.string (sb (packP ([(3, ([0, 2] : List Int)), (4, ([1] : List Int))] : PS)))] (some 16) [.inRegion (cops (csub (cd Try.f13) [1,1,0])) [2,3,4,5,6], .code (csub (cd Try.f13) [1,1,1])] [(1, .string (sb (packP ([(3, ([0, 2] : List Int)), (4, ([1] : List Int))] : PS)))), (2, .int .i64 (ckP (-1) ([(3, ([0, 2] : List Int)), (4, ([1] : List Int))] : PS)))] (by kernel_rfl) (pread_c (packP ([(3, ([0, 2] : List Int)), (4, ([1] : List Int))] : PS)) (by decide +kernel) w18) ?_
  rintro _ w22 ⟨v24, Y25, rfl, m23⟩
  refine ⟨_, rfl, ?_⟩
  have hM26 := Mem.join hM21 m23
  have hM27 : Mem [] w w22 (⟨40, 2, v24, (List.length ((readX (packP ([(3, ([0, 2] : List Int)), (4, ([1] : List Int))] : PS))).1)), (pcells ((readX (packP ([(3, ([0, 2] : List Int)), (4, ([1] : List Int))] : PS))).1) Y25)⟩ :: (atR 3 Y25 ((readX (packP ([(3, ([0, 2] : List Int)), (4, ([1] : List Int))] : PS))).1) 0 (List.length ((readX (packP ([(3, ([0, 2] : List Int)), (4, ([1] : List Int))] : PS))).1)))) := Mem.swapT (A := [⟨40, 2, v24, (List.length ((readX (packP ([(3, ([0, 2] : List Int)), (4, ([1] : List Int))] : PS))).1)), (pcells ((readX (packP ([(3, ([0, 2] : List Int)), (4, ([1] : List Int))] : PS))).1) Y25)⟩]) (B := (atR 3 Y25 ((readX (packP ([(3, ([0, 2] : List Int)), (4, ([1] : List Int))] : PS))).1) 0 (List.length ((readX (packP ([(3, ([0, 2] : List Int)), (4, ([1] : List Int))] : PS))).1)))) (C := []) hM26
  have o34 : (binOp .eql 9 (.string (sb (packP ([(3, ([0, 2] : List Int)), (4, ([1] : List Int))] : PS)))) (.string (sb ([130, 2, 7, 130, 2, 6, 131, 2, 24] : List UInt8)))).run Try.prog w22 = .ok (.bool true) w22 := f_streq_yes (by decide +kernel)
  have o35 : (IntKind.i64 = IntKind.i64) ∧ w22 = w22 ∧ Value.bool true = .bool ((ckP (-1) ([(3, ([0, 2] : List Int)), (4, ([1] : List Int))] : PS)) == 0) := ⟨rfl, rfl, congrArg Value.bool (Eq.symm (by decide +kernel))⟩
  have o36 : (IntKind.i64 = IntKind.i64) ∧ w22 = w22 ∧ Value.bool true = .bool ((readX (packP ([(3, ([0, 2] : List Int)), (4, ([1] : List Int))] : PS))).2 == 0) := ⟨rfl, rfl, congrArg Value.bool (Eq.symm (by rw [wake_all]; decide +kernel))⟩
  have o37 : (Builtin.len_ #[22] 3 #[v24]).run Try.prog w22 = .ok (.int .i64 (((List.length ((readX (packP ([(3, ([0, 2] : List Int)), (4, ([1] : List Int))] : PS))).1)) : Nat) : Int)) w22 := f_slen sT22 (hM27.rd 0 rfl) 3 _
  have o38 : (IntKind.i64 = IntKind.i64) ∧ w22 = w22 ∧ Value.bool true = .bool ((((List.length ((readX (packP ([(3, ([0, 2] : List Int)), (4, ([1] : List Int))] : PS))).1)) : Nat) : Int) == 2) := ⟨rfl, rfl, congrArg Value.bool (Eq.symm (by rw [wake_all]; decide +kernel))⟩
  obtain ⟨p28, hp29, hq30⟩ := rd_at (i := 0) sT22 (hM27.rd 0 rfl) 0 (by omega) (by first | omega | (rw [wake_all]; exact Nat.zero_lt_succ _))
  have o39 : (Instr.indexAt 22 (v24) (.int .i64 0)).run Try.prog w22 = .ok (.pointer (some p28)) w22 := hq30 _ _
  have o40 : (Instr.loadAt 3 (.pointer (some (Addr.add p28 0)))).run Try.prog w22 = .ok (.int .i64 ((List.getD ((readX (packP ([(3, ([0, 2] : List Int)), (4, ([1] : List Int))] : PS))).1) 0 zp).1)) w22 := c_load pE3 (hM27.rd 0 rfl) (Cel.add (At.cel hp29) 0) (p_at0 (by first | omega | (rw [wake_all]; exact Nat.zero_lt_succ _)))
  have o41 : (IntKind.i64 = IntKind.i64) ∧ w22 = w22 ∧ Value.bool true = .bool ((List.getD ((readX (packP ([(3, ([0, 2] : List Int)), (4, ([1] : List Int))] : PS))).1) 0 zp).1 == 3) := ⟨rfl, rfl, congrArg Value.bool (Eq.symm (by rw [wake_all]; decide +kernel))⟩
  obtain ⟨p31, hp32, hq33⟩ := rd_at (i := 0) sT22 (hM27.rd 0 rfl) 0 (by omega) (by first | omega | (rw [wake_all]; exact Nat.zero_lt_succ _))
  have o42 : (Instr.indexAt 22 (v24) (.int .i64 0)).run Try.prog w22 = .ok (.pointer (some p31)) w22 := hq33 _ _
  have o43 : (Instr.loadAt 38 (.pointer (some (Addr.add p31 1)))).run Try.prog w22 = .ok ((Y25 0)) w22 := c_load pE38 (hM27.rd 0 rfl) (Cel.add (At.cel hp32) 1) (p_at1 (by first | omega | (rw [wake_all]; exact Nat.zero_lt_succ _)))
  have o44 : (Builtin.len_ #[38] 3 #[(Y25 0)]).run Try.prog w22 = .ok (.int .i64 (((List.length (List.getD ((readX (packP ([(3, ([0, 2] : List Int)), (4, ([1] : List Int))] : PS))).1) 0 zp).2) : Nat) : Int)) w22 := f_slen sT38 (hM27.rdm (List.mem_cons_of_mem _ (atR_mem (j := 0) (Nat.zero_le _) (by rw [Nat.zero_add]; rw [wake_all]; exact Nat.zero_lt_succ _)))) 3 _
  have o45 : (IntKind.i64 = IntKind.i64) ∧ w22 = w22 ∧ Value.bool true = .bool ((((List.length (List.getD ((readX (packP ([(3, ([0, 2] : List Int)), (4, ([1] : List Int))] : PS))).1) 0 zp).2) : Nat) : Int) == 2) := ⟨rfl, rfl, congrArg Value.bool (Eq.symm (by rw [wake_all]; decide +kernel))⟩
  have hM46 : Mem [] w w22 ((atR 3 Y25 ((readX (packP ([(3, ([0, 2] : List Int)), (4, ([1] : List Int))] : PS))).1) 0 (List.length ((readX (packP ([(3, ([0, 2] : List Int)), (4, ([1] : List Int))] : PS))).1)))) := hM27.sub (List.Sublist.cons _ (List.Sublist.refl _))
  refine GoS.run [0] [.n, .n, .n, .n, .n, .n, .n, .n, .n, .h (.bool true), .n, .n, .h (.bool true), .n, .n, .n, .h (.bool true), .n, .n, .n, .h (.int .i64 (((List.length ((readX (packP ([(3, ([0, 2] : List Int)), (4, ([1] : List Int))] : PS))).1)) : Nat) : Int)), .h (.bool true), .n, .n, .n, .h (.pointer (some p28)), .n, .h (.int .i64 ((List.getD ((readX (packP ([(3, ([0, 2] : List Int)), (4, ([1] : List Int))] : PS))).1) 0 zp).1)), .h (.bool true), .n, .n, .n, .h (.pointer (some p31)), .n, .h ((Y25 0)), .h (.int .i64 (((List.length (List.getD ((readX (packP ([(3, ([0, 2] : List Int)), (4, ([1] : List Int))] : PS))).1) 0 zp).2) : Nat) : Int)), .h (.bool true), .n, .n, .n] _ [.code (csub (cd Try.f13) [1,1,1,1])] [(0, .bool true)] w22 (by kernel_rfl) (.cons o34 (.cons o35 (.cons o36 (.cons o37 (.cons o38 (.cons o39 (.cons o40 (.cons o41 (.cons o42 (.cons o43 (.cons o44 (.cons o45 .nil)))))))))))) ?_
  refine GoS.ret (fn := Try.f13) (v := (.bool true)) Try.func13 (by kernel_rfl) ?_
  rw [hR]
  exact ⟨ret_bool (by decide +kernel), hM46.sub (List.nil_sublist _)⟩

set_option maxHeartbeats 400000 in
theorem lpacks_c (w : World) (u : Value) (L : PS) (X : Nat → Value) (hu : Rd w 2 u L.length (pcells L X)) (hX : ∀ j, j < L.length → Rd w 1 (X j) (L.getD j zp).2.length (ivals .i64 (L.getD j zp).2)) (hLr : L.length * 32 ≤ 140737488351232) (hAr : ∀ j, j < L.length → (L.getD j zp).2.length * 8 ≤ 140737488351232) :
    Calls Try.prog 3 #[u] w (fun e w' => e = .returned (.bool true) ∧ Below w.heap.size w w') := by
  obtain ⟨R, hR⟩ : ∃ R : Ending → World → Prop, R = (fun e w' => e = .returned (.bool true) ∧ Below w.heap.size w w') := ⟨_, rfl⟩
  rw [← hR]
  refine GoS.enter (n := 43) Try.func3 (by kernel_rfl) rfl [(0, u)] (by kernel_rfl) (by kernel_rfl) ?_
  have hM0 := Mem.start w
  refine GoS.run [0, 8] [.n, .n, .n, .n, .n, .n, .n] _ [.inRegion (cops (csub (cd Try.f3) [1,0])) [1,2], .code (csub (cd Try.f3) [1,1])] [(0, u), (8, u)] w (by kernel_rfl) .nil ?_
  refine GoS.call [0] 10 #[u] (some 9) [.inRegion (cops (csub (cd Try.f3) [1,0])) [2], .code (csub (cd Try.f3) [1,1])] [(0, u)] (by kernel_rfl) (copy_c u L X (hu.kept0 hM0.kept) (fun j_ hj_ => (hX j_ hj_).kept0 hM0.kept) (by omega) (by assumption)) ?_
  rintro _ w1 ⟨v3, Y4, rfl, m2⟩
  refine ⟨_, rfl, ?_⟩
  have hM6 := Mem.join hM0 m2
  have hM7 : Mem [] w w1 (⟨40, 2, v3, (List.length L), (pcells L Y4)⟩ :: (atR 3 Y4 L 0 (List.length L))) := Mem.swapT (A := [⟨40, 2, v3, (List.length L), (pcells L Y4)⟩]) (B := (atR 3 Y4 L 0 (List.length L))) (C := []) hM6
  refine GoS.run [0, 3, 11] [.n, .n, .n, .n, .n] _ [.inRegion (cops (csub (cd Try.f3) [1,1,0])) [1,2,3,4,5,6], .code (csub (cd Try.f3) [1,1,1])] [(0, u), (3, v3), (11, v3)] w1 (by kernel_rfl) .nil ?_
  refine GoS.call [0, 3] 11 #[v3] (some 12) [.inRegion (cops (csub (cd Try.f3) [1,1,0])) [2,3,4,5,6], .code (csub (cd Try.f3) [1,1,1])] [(0, u), (3, v3)] (by kernel_rfl) (ppack_c v3 L Y4 (hM7.rd 0 rfl) (fun j_ hj_ => hM7.rdm (List.mem_cons_of_mem _ (atR_mem (Nat.zero_le _) (by rw [Nat.zero_add]; exact hj_))))) ?_
  rintro _ w8 ⟨rfl, m9⟩
  refine ⟨_, rfl, ?_⟩
  have hM10 := Mem.join hM7 m9
  refine GoS.run [0, 3, 4, 5, 16] [.n, .n, .n, .n, .n, .n, .n, .n, .n] _ [.inRegion (cops (csub (cd Try.f3) [1,1,1,0])) [1,2,3,4,5,6], .code (csub (cd Try.f3) [1,1,1,1])] [(0, u), (3, v3), (4, .string (sb (packP L))), (5, .int .i64 (ckP (-1) L)), (16, u)] w8 (by kernel_rfl) .nil ?_
  refine GoS.call [0, 3, 4, 5] 12 #[u] (some 17) [.inRegion (cops (csub (cd Try.f3) [1,1,1,0])) [2,3,4,5,6], .code (csub (cd Try.f3) [1,1,1,1])] [(0, u), (3, v3), (4, .string (sb (packP L))), (5, .int .i64 (ckP (-1) L))] (by kernel_rfl) (rppack_c u L X (hu.kept0 hM10.kept) (fun j_ hj_ => (hX j_ hj_).kept0 hM10.kept)) ?_
  rintro _ w11 ⟨rfl, m12⟩
  refine ⟨_, rfl, ?_⟩
  have hM13 := Mem.join hM10 m12
  refine GoS.run [0, 3, 4, 5, 6, 7] [.n, .n, .n, .n, .n, .n, .n, .n] _ [.inRegion (cops (csub (cd Try.f3) [1,1,1,1,0])) [0,1,2,3,4,5,6,7,8,9,10,11,12,13,14,15,16,17,18,19,20,21,22,23], .code (csub (cd Try.f3) [1,1,1,1,1])] [(0, u), (3, v3), (4, .string (sb (packP L))), (5, .int .i64 (ckP (-1) L)), (6, .string (sb (packP L))), (7, .int .i64 (ckP (-1) L))] w11 (by kernel_rfl) .nil ?_
  refine GoS.call [0, 3, 4, 5, 6, 7] 13 #[] (some 20) [.inRegion (cops (csub (cd Try.f3) [1,1,1,1,0])) [1,2,3,4,5,6,7,8,9,10,11,12,13,14,15,16,17,18,19,20,21,22,23], .code (csub (cd Try.f3) [1,1,1,1,1])] [(0, u), (3, v3), (4, .string (sb (packP L))), (5, .int .i64 (ckP (-1) L)), (6, .string (sb (packP L))), (7, .int .i64 (ckP (-1) L))] (by kernel_rfl) (awake_c w11) ?_
  rintro _ w14 ⟨rfl, m15⟩
  refine ⟨_, rfl, ?_⟩
  have hM16 := Mem.join hM13 m15
  have o17 : (binOp .eql 9 (.string (sb (packP L))) (.string (sb (packP L)))).run Try.prog w14 = .ok (.bool true) w14 := f_streq_yes (rfl)
  have o18 : (IntKind.i64 = IntKind.i64) ∧ w14 = w14 ∧ Value.bool true = .bool ((ckP (-1) L) == (ckP (-1) L)) := ⟨rfl, rfl, congrArg Value.bool (Eq.symm (beq_self_eq_true _))⟩
  refine GoS.run [0, 3, 31, 32] [.n, .n, .n, .h (.bool true), .n, .n, .n, .n, .h (.bool true), .n, .n, .n] _ [.inRegion (cops (csub (cd Try.f3) [1,1,1,1,0])) [13,14,15,16,17,18,19,20,21,22,23], .code (csub (cd Try.f3) [1,1,1,1,1])] [(0, u), (3, v3), (31, .bool true), (32, v3)] w14 (by kernel_rfl) (.cons o17 (.cons o18 .nil)) ?_
  refine GoS.call [0, 3, 31] 14 #[v3] (some 33) [.inRegion (cops (csub (cd Try.f3) [1,1,1,1,0])) [14,15,16,17,18,19,20,21,22,23], .code (csub (cd Try.f3) [1,1,1,1,1])] [(0, u), (3, v3), (31, .bool true)] (by kernel_rfl) (check_c v3 L Y4 (hM16.rd 0 rfl) (fun j_ hj_ => hM16.rdm (List.mem_cons_of_mem _ (atR_mem (Nat.zero_le _) (by rw [Nat.zero_add]; exact hj_)))) ) ?_
  rintro _ w19 ⟨rfl, m20⟩
  refine ⟨_, rfl, ?_⟩
  have hM21 := Mem.join hM16 m20
  refine GoS.run [0, 3, 31, 33, 34] [.n] _ [.inRegion (cops (csub (cd Try.f3) [1,1,1,1,0])) [15,16,17,18,19,20,21,22,23], .code (csub (cd Try.f3) [1,1,1,1,1])] [(0, u), (3, v3), (31, .bool true), (33, .int .i64 (ckP (-1) L)), (34, u)] w19 (by kernel_rfl) .nil ?_
  refine GoS.call [0, 3, 31, 33] 15 #[u] (some 35) [.inRegion (cops (csub (cd Try.f3) [1,1,1,1,0])) [16,17,18,19,20,21,22,23], .code (csub (cd Try.f3) [1,1,1,1,1])] [(0, u), (3, v3), (31, .bool true), (33, .int .i64 (ckP (-1) L))] (by kernel_rfl) (rcheck_c u L X (hu.kept0 hM21.kept) (fun j_ hj_ => (hX j_ hj_).kept0 hM21.kept)) ?_
  rintro _ w22 ⟨rfl, m23⟩
  refine ⟨_, rfl, ?_⟩
  have hM24 := Mem.join hM21 m23
  have o25 : (IntKind.i64 = IntKind.i64) ∧ w22 = w22 ∧ Value.bool true = .bool ((ckP (-1) L) == (ckP (-1) L)) := ⟨rfl, rfl, congrArg Value.bool (Eq.symm (beq_self_eq_true _))⟩
  refine GoS.run [38, 39, 40] [.h (.bool true), .n, .n, .n, .n] _ [.inRegion (cops (csub (cd Try.f3) [1,1,1,1,0])) [21,22,23], .code (csub (cd Try.f3) [1,1,1,1,1])] [(38, .bool true), (39, v3), (40, u)] w22 (by kernel_rfl) (.cons o25 .nil) ?_
  refine GoS.call [38] 16 #[v3, u] (some 41) [.inRegion (cops (csub (cd Try.f3) [1,1,1,1,0])) [22,23], .code (csub (cd Try.f3) [1,1,1,1,1])] [(38, .bool true)] (by kernel_rfl) (same_yes v3 L Y4 (hM24.rd 0 rfl) (fun j_ hj_ => hM24.rdm (List.mem_cons_of_mem _ (atR_mem (Nat.zero_le _) (by rw [Nat.zero_add]; exact hj_)))) u L X (hu.kept0 hM24.kept) (fun j_ hj_ => (hX j_ hj_).kept0 hM24.kept) (rfl)) ?_
  rintro _ w26 ⟨rfl, m27⟩
  refine ⟨_, rfl, ?_⟩
  have hM28 := Mem.join hM24 m27
  have hM29 : Mem [] w w26 ((atR 3 Y4 L 0 (List.length L))) := hM28.sub (List.Sublist.cons _ (List.Sublist.refl _))
  refine GoS.run [2] [.n, .n, .n] _ [.code (csub (cd Try.f3) [1,1,1,1,1])] [(2, .bool true)] w26 (by kernel_rfl) .nil ?_
  refine GoS.ret (fn := Try.f3) (v := (.bool true)) Try.func3 (by kernel_rfl) ?_
  rw [hR]
  exact ⟨rfl, hM29.below⟩


end Go.Proofs.Ythimiheeheaaaaa
