/-
  The walk of PostingBack.
-/
import Derived.Test.YthimiheeheaaaaaPosH
import Derived.Test.YthimiheeheaaaaaPostL
namespace Go.Proofs.Ythimiheeheaaaaa
open Go Go.Gw Go.NumP Go.LiveP Go.PackP Go.PostP Go.RowKit
set_option linter.unusedVariables false
set_option linter.unusedSimpArgs false


theorem p_eq2 {a b : Int} (h : (a == b) = true) : a = b := eq_of_beq h

set_option maxHeartbeats 400000 in
theorem lback_c (s more : List UInt8) (w : World) (u : Value) (L : PS) (X : Nat → Value) (hu : Rd w 2 u L.length (pcells L X)) (hX : ∀ j, j < L.length → Rd w 1 (X j) (L.getD j zp).2.length (ivals .i64 (L.getD j zp).2)) (hL1 : L.length ≤ 1048576) (hL3 : (pls L).length ≤ 1048576) (hs : s.length ≤ 1048576) (hm : more.length ≤ 1048576) :
    Calls Try.prog 5 #[u, .string (sb s), .string (sb more)] w (fun e w' => e = .returned (.bool true) ∧ Below w.heap.size w w') := by
  have hps := packP_small hL1 hL3
  obtain ⟨R, hR⟩ : ∃ R : Ending → World → Prop, R = (fun e w' => e = .returned (.bool true) ∧ Below w.heap.size w w') := ⟨_, rfl⟩
  rw [← hR]
  refine GoS.enter (n := 76) Try.func5 (by kernel_rfl) rfl [(0, u), (1, .string (sb s)), (2, .string (sb more))] (by kernel_rfl) (by kernel_rfl) ?_
  have hM0 := Mem.start w
  refine GoS.run [0, 1, 2, 18] [.n, .n, .n, .n, .n, .n, .n] _ [.inRegion (cops (csub (cd Try.f5) [1,0])) [1,2,3,4,5,6], .code (csub (cd Try.f5) [1,1])] [(0, u), (1, .string (sb s)), (2, .string (sb more)), (18, u)] w (by kernel_rfl) .nil ?_
  refine GoS.call [0, 1, 2] 11 #[u] (some 19) [.inRegion (cops (csub (cd Try.f5) [1,0])) [2,3,4,5,6], .code (csub (cd Try.f5) [1,1])] [(0, u), (1, .string (sb s)), (2, .string (sb more))] (by kernel_rfl) (ppack_c u L X (hu.kept0 hM0.kept) (fun j_ hj_ => (hX j_ hj_).kept0 hM0.kept)) ?_
  rintro _ w1 ⟨rfl, m2⟩
  refine ⟨_, rfl, ?_⟩
  have hM3 := Mem.join hM0 m2
  refine GoS.run [0, 1, 2, 7, 8] [.n, .n, .n, .n, .n, .n, .n, .n, .n] _ [.inRegion (cops (csub (cd Try.f5) [1,1,0,0])) [0,1], .code (csub (cd Try.f5) [1,1,0,1]), .code (csub (cd Try.f5) [1,1,1])] [(0, u), (1, .string (sb s)), (2, .string (sb more)), (7, .string (sb (packP L))), (8, .int .i64 (ckP (-1) L))] w1 (by kernel_rfl) .nil ?_
  refine GoS.call [0, 1, 2, 7, 8] 13 #[] (some 22) [.inRegion (cops (csub (cd Try.f5) [1,1,0,0])) [1], .code (csub (cd Try.f5) [1,1,0,1]), .code (csub (cd Try.f5) [1,1,1])] [(0, u), (1, .string (sb s)), (2, .string (sb more)), (7, .string (sb (packP L))), (8, .int .i64 (ckP (-1) L))] (by kernel_rfl) (awake_c w1) ?_
  rintro _ w4 ⟨rfl, m5⟩
  refine ⟨_, rfl, ?_⟩
  have hM6 := Mem.join hM3 m5
  refine GoS.run [0, 1, 2, 7, 25] [.n, .n, .n, .n, .n, .n, .n, .n, .n, .n] _ [.code (csub (cd Try.f5) [1,1,1,0,1]), .code (csub (cd Try.f5) [1,1,1,1])] [(0, u), (1, .string (sb s)), (2, .string (sb more)), (7, .string (sb (packP L))), (25, .bool ((ckP (-1) L) == 0))] w4 (by kernel_rfl) .nil ?_
  refine GoS.cond ((ckP (-1) L) == 0) [.code (csub (cd Try.f5) [1,1,1,0,1,0]), .code (csub (cd Try.f5) [1,1,1,1])] [.code (csub (cd Try.f5) [1,1,1,0,1,1]), .code (csub (cd Try.f5) [1,1,1,1])] (by kernel_rfl) (fun h7 => ?_) (fun h7 => ?_)
  ·
    have h7p : (ckP (-1) L) = 0 := eq_of_beq h7
    refine GoS.run [0, 1, 2, 7, 27] [.n, .n, .n] _ [.inRegion (cops (csub (cd Try.f5) [1,1,1,0,1,0,0])) [1,2,3,4,5,6], .code (csub (cd Try.f5) [1,1,1,0,1,0,1]), .code (csub (cd Try.f5) [1,1,1,1])] [(0, u), (1, .string (sb s)), (2, .string (sb more)), (7, .string (sb (packP L))), (27, .string (sb (packP L)))] w4 (by kernel_rfl) .nil ?_
    refine GoS.call [0, 1, 2, 7] 17 #[.string (sb (packP L))] (some 28) [.inRegion (cops (csub (cd Try.f5) [1,1,1,0,1,0,0])) [2,3,4,5,6], .code (csub (cd Try.f5) [1,1,1,0,1,0,1]), .code (csub (cd Try.f5) [1,1,1,1])] [(0, u), (1, .string (sb s)), (2, .string (sb more)), (7, .string (sb (packP L)))] (by kernel_rfl) (pread_c (packP L) (by first | omega | (rw [List.length_append]; omega)) w4) ?_
    rintro _ w8 ⟨v10, Y11, rfl, m9⟩
    refine ⟨_, rfl, ?_⟩
    have hM12 := Mem.join hM6 m9
    have hM13 : Mem [] w w8 (⟨40, 2, v10, (List.length ((readX (packP L)).1)), (pcells ((readX (packP L)).1) Y11)⟩ :: (atR 3 Y11 ((readX (packP L)).1) 0 (List.length ((readX (packP L)).1)))) := Mem.swapT (A := [⟨40, 2, v10, (List.length ((readX (packP L)).1)), (pcells ((readX (packP L)).1) Y11)⟩]) (B := (atR 3 Y11 ((readX (packP L)).1) 0 (List.length ((readX (packP L)).1)))) (C := []) hM12
    have o14 : (binOp .add 9 (.string (sb (packP L))) (.string (sb more))).run Try.prog w8 = .ok (.string (sb ((packP L) ++ more))) w8 := f_stradd (by omega)
    refine GoS.run [0, 1, 2, 9, 10, 34] [.n, .n, .n, .n, .n, .n, .n, .n, .n, .n, .h (.string (sb ((packP L) ++ more)))] _ [.inRegion (cops (csub (cd Try.f5) [1,1,1,0,1,0,1,0])) [3,4,5,6,7,8], .code (csub (cd Try.f5) [1,1,1,0,1,0,1,1]), .code (csub (cd Try.f5) [1,1,1,1])] [(0, u), (1, .string (sb s)), (2, .string (sb more)), (9, v10), (10, .int .i64 ((readX (packP L)).2)), (34, .string (sb ((packP L) ++ more)))] w8 (by kernel_rfl) (.cons o14 .nil) ?_
    refine GoS.call [0, 1, 2, 9, 10] 17 #[.string (sb ((packP L) ++ more))] (some 35) [.inRegion (cops (csub (cd Try.f5) [1,1,1,0,1,0,1,0])) [4,5,6,7,8], .code (csub (cd Try.f5) [1,1,1,0,1,0,1,1]), .code (csub (cd Try.f5) [1,1,1,1])] [(0, u), (1, .string (sb s)), (2, .string (sb more)), (9, v10), (10, .int .i64 ((readX (packP L)).2))] (by kernel_rfl) (pread_c ((packP L) ++ more) (by first | omega | (rw [List.length_append]; omega)) w8) ?_
    rintro _ w15 ⟨v17, Y18, rfl, m16⟩
    refine ⟨_, rfl, ?_⟩
    have hM19 := Mem.join hM13 m16
    have hM20 : Mem [] w w15 (⟨40, 2, v17, (List.length ((readX ((packP L) ++ more)).1)), (pcells ((readX ((packP L) ++ more)).1) Y18)⟩ :: ⟨40, 2, v10, (List.length ((readX (packP L)).1)), (pcells ((readX (packP L)).1) Y11)⟩ :: ((atR 3 Y11 ((readX (packP L)).1) 0 (List.length ((readX (packP L)).1))) ++ (atR 3 Y18 ((readX ((packP L) ++ more)).1) 0 (List.length ((readX ((packP L) ++ more)).1))))) := Mem.swapT (A := [⟨40, 2, v17, (List.length ((readX ((packP L) ++ more)).1)), (pcells ((readX ((packP L) ++ more)).1) Y18)⟩]) (B := (atR 3 Y18 ((readX ((packP L) ++ more)).1) 0 (List.length ((readX ((packP L) ++ more)).1)))) (C := (⟨40, 2, v10, (List.length ((readX (packP L)).1)), (pcells ((readX (packP L)).1) Y11)⟩ :: (atR 3 Y11 ((readX (packP L)).1) 0 (List.length ((readX (packP L)).1))))) hM19
    have o21 : (IntKind.i64 = IntKind.i64) ∧ w15 = w15 ∧ Value.bool false = .bool ((readX (packP L)).2 != 0) := ⟨rfl, rfl, congrArg Value.bool (Eq.symm (by rw [back0 (p_eq2 h7)]; rfl))⟩
    have hM22 : Mem [] w w15 (⟨40, 2, v10, (List.length ((readX (packP L)).1)), (pcells ((readX (packP L)).1) Y11)⟩ :: ((atR 3 Y11 ((readX (packP L)).1) 0 (List.length ((readX (packP L)).1))) ++ (atR 3 Y18 ((readX ((packP L) ++ more)).1) 0 (List.length ((readX ((packP L) ++ more)).1))))) := hM20.sub (List.Sublist.cons _ (List.Sublist.cons_cons _ (List.Sublist.refl _)))
    refine GoS.run [1, 2, 12, 40, 41, 42] [.n, .n, .n, .n, .n, .n, .n, .n, .n, .h (.bool false), .n, .n, .n] _ [.inRegion (cops (csub (cd Try.f5) [1,1,1,0,1,0,1,1,0])) [5,6,7,8,9,10,11,12,13,14,15], .code (csub (cd Try.f5) [1,1,1,0,1,0,1,1,1]), .code (csub (cd Try.f5) [1,1,1,1])] [(1, .string (sb s)), (2, .string (sb more)), (12, .int .i64 ((readX ((packP L) ++ more)).2)), (40, .bool false), (41, v10), (42, u)] w15 (by kernel_rfl) (.cons o21 .nil) ?_
    refine GoS.call [1, 2, 12, 40] 16 #[v10, u] (some 43) [.inRegion (cops (csub (cd Try.f5) [1,1,1,0,1,0,1,1,0])) [6,7,8,9,10,11,12,13,14,15], .code (csub (cd Try.f5) [1,1,1,0,1,0,1,1,1]), .code (csub (cd Try.f5) [1,1,1,1])] [(1, .string (sb s)), (2, .string (sb more)), (12, .int .i64 ((readX ((packP L) ++ more)).2)), (40, .bool false)] (by kernel_rfl) (same_yes v10 ((readX (packP L)).1) Y11 (hM22.rd 0 rfl) (fun j_ hj_ => hM22.rdm (List.mem_cons_of_mem _ (List.mem_append_left _ (atR_mem (Nat.zero_le _) (by rw [Nat.zero_add]; exact hj_))))) u L X (hu.kept0 hM22.kept) (fun j_ hj_ => (hX j_ hj_).kept0 hM22.kept) (by rw [back0 (p_eq2 h7)])) ?_
    rintro _ w23 ⟨rfl, m24⟩
    refine ⟨_, rfl, ?_⟩
    have hM25 := Mem.join hM22 m24
    have o26 : (binOp .neq 9 (.string (sb more)) (.string (sb ([])))).run Try.prog w23 = .ok (.bool (!(decide (more = [])))) w23 := f_strneq
    have hM27 : Mem [] w w23 (((atR 3 Y11 ((readX (packP L)).1) 0 (List.length ((readX (packP L)).1))) ++ (atR 3 Y18 ((readX ((packP L) ++ more)).1) 0 (List.length ((readX ((packP L) ++ more)).1))))) := hM25.sub (List.Sublist.cons _ (List.Sublist.refl _))
    refine GoS.run [1, 12, 46, 49] [.n, .n, .n, .n, .h (.bool (!(decide (more = [])))), .n] _ [.inRegion (cops (csub (cd Try.f5) [1,1,1,0,1,0,1,1,0])) [12,13,14,15], .code (csub (cd Try.f5) [1,1,1,0,1,0,1,1,1]), .code (csub (cd Try.f5) [1,1,1,1])] [(1, .string (sb s)), (12, .int .i64 ((readX ((packP L) ++ more)).2)), (46, .bool false), (49, .bool (!(decide (more = []))))] w23 (by kernel_rfl) (.cons o26 .nil) ?_
    refine GoS.fork 49 (!(decide (more = []))) (by kernel_rfl) (fun h28 => ?_) (fun h28 => ?_)
    ·
      have h28p : ¬ (more = []) := of_decide_eq_false (p_nf h28)
      have o29 : (IntKind.i64 = IntKind.i64) ∧ w23 = w23 ∧ Value.bool false = .bool ((readX ((packP L) ++ more)).2 != 5) := ⟨rfl, rfl, congrArg Value.bool (Eq.symm (by rw [(back1 (p_eq2 h7) more).2 h28p]; rfl))⟩
      refine GoS.run [1, 53] [.n, .h (.bool false), .n, .n] _ [.inRegion (cops (csub (cd Try.f5) [1,1,1,0,1,0,1,1,0])) [], .code (csub (cd Try.f5) [1,1,1,0,1,0,1,1,1]), .code (csub (cd Try.f5) [1,1,1,1])] [(1, .string (sb s)), (53, .bool false)] w23 (by kernel_rfl) (.cons o29 .nil) ?_
      refine GoS.run [1] [.n, .n, .n] _ [.code (csub (cd Try.f5) [1,1,1,1])] [(1, .string (sb s))] w23 (by kernel_rfl) .nil ?_
      refine GoS.run [1, 55] [.n, .n, .n] _ [.inRegion (cops (csub (cd Try.f5) [1,1,1,1,0])) [1,2,3,4,5,6], .code (csub (cd Try.f5) [1,1,1,1,1])] [(1, .string (sb s)), (55, .string (sb s))] w23 (by kernel_rfl) .nil ?_
      refine GoS.call [1] 17 #[.string (sb s)] (some 56) [.inRegion (cops (csub (cd Try.f5) [1,1,1,1,0])) [2,3,4,5,6], .code (csub (cd Try.f5) [1,1,1,1,1])] [(1, .string (sb s))] (by kernel_rfl) (pread_c s (by first | omega | (rw [List.length_append]; omega)) w23) ?_
      rintro _ w30 ⟨v32, Y33, rfl, m31⟩
      refine ⟨_, rfl, ?_⟩
      have hM34 := Mem.join hM27 m31
      have hM35 : Mem [] w w30 (⟨40, 2, v32, (List.length ((readX s).1)), (pcells ((readX s).1) Y33)⟩ :: (((atR 3 Y11 ((readX (packP L)).1) 0 (List.length ((readX (packP L)).1))) ++ (atR 3 Y18 ((readX ((packP L) ++ more)).1) 0 (List.length ((readX ((packP L) ++ more)).1)))) ++ (atR 3 Y33 ((readX s).1) 0 (List.length ((readX s).1))))) := Mem.swapT (A := [⟨40, 2, v32, (List.length ((readX s).1)), (pcells ((readX s).1) Y33)⟩]) (B := (atR 3 Y33 ((readX s).1) 0 (List.length ((readX s).1)))) (C := (((atR 3 Y11 ((readX (packP L)).1) 0 (List.length ((readX (packP L)).1))) ++ (atR 3 Y18 ((readX ((packP L) ++ more)).1) 0 (List.length ((readX ((packP L) ++ more)).1)))))) hM34
      refine GoS.run [1, 13, 60] [.n, .n, .n, .n, .n, .n, .n, .n, .n, .n, .n, .n] _ [.code (csub (cd Try.f5) [1,1,1,1,1,0,1]), .code (csub (cd Try.f5) [1,1,1,1,1,1])] [(1, .string (sb s)), (13, v32), (60, .bool ((readX s).2 != 0))] w30 (by kernel_rfl) .nil ?_
      refine GoS.cond ((readX s).2 != 0) [.code (csub (cd Try.f5) [1,1,1,1,1,0,1,0]), .code (csub (cd Try.f5) [1,1,1,1,1,1])] [.code (csub (cd Try.f5) [1,1,1,1,1,0,1,1]), .code (csub (cd Try.f5) [1,1,1,1,1,1])] (by kernel_rfl) (fun h36 => ?_) (fun h36 => ?_)
      ·
        have h36p : ¬ ((readX s).2 = 0) := bne_iff_ne.1 h36
        have o37 : (Builtin.len_ #[22] 3 #[v32]).run Try.prog w30 = .ok (.int .i64 (((List.length ((readX s).1)) : Nat) : Int)) w30 := f_slen sT22 (hM35.rd 0 rfl) 3 _
        have o38 : (IntKind.i64 = IntKind.i64) ∧ w30 = w30 ∧ Value.bool true = .bool ((((List.length ((readX s).1)) : Nat) : Int) == 0) := ⟨rfl, rfl, congrArg Value.bool (Eq.symm (by rw [readX_fail (bne_iff_ne.1 h36)]; rfl))⟩
        have hM39 : Mem [] w w30 ((((atR 3 Y11 ((readX (packP L)).1) 0 (List.length ((readX (packP L)).1))) ++ (atR 3 Y18 ((readX ((packP L) ++ more)).1) 0 (List.length ((readX ((packP L) ++ more)).1)))) ++ (atR 3 Y33 ((readX s).1) 0 (List.length ((readX s).1))))) := hM35.sub (List.Sublist.cons _ (List.Sublist.refl _))
        refine GoS.run [6] [.n, .n, .n, .h (.int .i64 (((List.length ((readX s).1)) : Nat) : Int)), .h (.bool true), .n, .n] _ [.code (csub (cd Try.f5) [1,1,1,1,1,0,1,0,1]), .code (csub (cd Try.f5) [1,1,1,1,1,1])] [(6, .bool true)] w30 (by kernel_rfl) (.cons o37 (.cons o38 .nil)) ?_
        refine GoS.ret (fn := Try.f5) (v := (.bool true)) Try.func5 (by kernel_rfl) ?_
        rw [hR]
        exact ⟨rfl, (hM39.sub (List.nil_sublist _)).below⟩
      ·
        have h36p : (readX s).2 = 0 := p_eq h36
        refine GoS.run [1, 13] [.n] _ [.code (csub (cd Try.f5) [1,1,1,1,1,1])] [(1, .string (sb s)), (13, v32)] w30 (by kernel_rfl) .nil ?_
        refine GoS.run [1, 65] [.n, .n, .n] _ [.inRegion (cops (csub (cd Try.f5) [1,1,1,1,1,1,0])) [1,2,3,4,5,6], .code (csub (cd Try.f5) [1,1,1,1,1,1,1])] [(1, .string (sb s)), (65, v32)] w30 (by kernel_rfl) .nil ?_
        refine GoS.call [1] 11 #[v32] (some 66) [.inRegion (cops (csub (cd Try.f5) [1,1,1,1,1,1,0])) [2,3,4,5,6], .code (csub (cd Try.f5) [1,1,1,1,1,1,1])] [(1, .string (sb s))] (by kernel_rfl) (ppack_c v32 ((readX s).1) Y33 (hM35.rd 0 rfl) (fun j_ hj_ => hM35.rdm (List.mem_cons_of_mem _ (List.mem_append_right _ (atR_mem (Nat.zero_le _) (by rw [Nat.zero_add]; exact hj_)))))) ?_
        rintro _ w40 ⟨rfl, m41⟩
        refine ⟨_, rfl, ?_⟩
        have hM42 := Mem.join hM35 m41
        have o43 : (IntKind.i64 = IntKind.i64) ∧ w40 = w40 ∧ Value.bool true = .bool ((ckP (-1) ((readX s).1)) == 0) := ⟨rfl, rfl, congrArg Value.bool (Eq.symm (by rw [(back2 (p_eq h36)).1]; rfl))⟩
        have o44 : (binOp .eql 9 (.string (sb (packP ((readX s).1)))) (.string (sb s))).run Try.prog w40 = .ok (.bool true) w40 := f_streq_yes ((back2 (p_eq h36)).2)
        have hM45 : Mem [] w w40 ((((atR 3 Y11 ((readX (packP L)).1) 0 (List.length ((readX (packP L)).1))) ++ (atR 3 Y18 ((readX ((packP L) ++ more)).1) 0 (List.length ((readX ((packP L) ++ more)).1)))) ++ (atR 3 Y33 ((readX s).1) 0 (List.length ((readX s).1))))) := hM42.sub (List.Sublist.cons _ (List.Sublist.refl _))
        refine GoS.run [6] [.n, .n, .n, .n, .n, .n, .n, .n, .n, .h (.bool true), .n, .n, .n, .h (.bool true), .n, .n, .n] _ [.code (csub (cd Try.f5) [1,1,1,1,1,1,1,1])] [(6, .bool true)] w40 (by kernel_rfl) (.cons o43 (.cons o44 .nil)) ?_
        refine GoS.ret (fn := Try.f5) (v := (.bool true)) Try.func5 (by kernel_rfl) ?_
        rw [hR]
        exact ⟨rfl, (hM45.sub (List.nil_sublist _)).below⟩
    ·
      have h28p : more = [] := of_decide_eq_true (p_nt h28)
      refine GoS.run [1, 53] [.n, .n, .n, .n] _ [.inRegion (cops (csub (cd Try.f5) [1,1,1,0,1,0,1,1,0])) [], .code (csub (cd Try.f5) [1,1,1,0,1,0,1,1,1]), .code (csub (cd Try.f5) [1,1,1,1])] [(1, .string (sb s)), (53, .bool false)] w23 (by kernel_rfl) .nil ?_
      refine GoS.run [1] [.n, .n, .n] _ [.code (csub (cd Try.f5) [1,1,1,1])] [(1, .string (sb s))] w23 (by kernel_rfl) .nil ?_
      refine GoS.run [1, 55] [.n, .n, .n] _ [.inRegion (cops (csub (cd Try.f5) [1,1,1,1,0])) [1,2,3,4,5,6], .code (csub (cd Try.f5) [1,1,1,1,1])] [(1, .string (sb s)), (55, .string (sb s))] w23 (by kernel_rfl) .nil ?_
      refine GoS.call [1] 17 #[.string (sb s)] (some 56) [.inRegion (cops (csub (cd Try.f5) [1,1,1,1,0])) [2,3,4,5,6], .code (csub (cd Try.f5) [1,1,1,1,1])] [(1, .string (sb s))] (by kernel_rfl) (pread_c s (by first | omega | (rw [List.length_append]; omega)) w23) ?_
      rintro _ w46 ⟨v48, Y49, rfl, m47⟩
      refine ⟨_, rfl, ?_⟩
      have hM50 := Mem.join hM27 m47
      have hM51 : Mem [] w w46 (⟨40, 2, v48, (List.length ((readX s).1)), (pcells ((readX s).1) Y49)⟩ :: (((atR 3 Y11 ((readX (packP L)).1) 0 (List.length ((readX (packP L)).1))) ++ (atR 3 Y18 ((readX ((packP L) ++ more)).1) 0 (List.length ((readX ((packP L) ++ more)).1)))) ++ (atR 3 Y49 ((readX s).1) 0 (List.length ((readX s).1))))) := Mem.swapT (A := [⟨40, 2, v48, (List.length ((readX s).1)), (pcells ((readX s).1) Y49)⟩]) (B := (atR 3 Y49 ((readX s).1) 0 (List.length ((readX s).1)))) (C := (((atR 3 Y11 ((readX (packP L)).1) 0 (List.length ((readX (packP L)).1))) ++ (atR 3 Y18 ((readX ((packP L) ++ more)).1) 0 (List.length ((readX ((packP L) ++ more)).1)))))) hM50
      refine GoS.run [1, 13, 60] [.n, .n, .n, .n, .n, .n, .n, .n, .n, .n, .n, .n] _ [.code (csub (cd Try.f5) [1,1,1,1,1,0,1]), .code (csub (cd Try.f5) [1,1,1,1,1,1])] [(1, .string (sb s)), (13, v48), (60, .bool ((readX s).2 != 0))] w46 (by kernel_rfl) .nil ?_
      refine GoS.cond ((readX s).2 != 0) [.code (csub (cd Try.f5) [1,1,1,1,1,0,1,0]), .code (csub (cd Try.f5) [1,1,1,1,1,1])] [.code (csub (cd Try.f5) [1,1,1,1,1,0,1,1]), .code (csub (cd Try.f5) [1,1,1,1,1,1])] (by kernel_rfl) (fun h52 => ?_) (fun h52 => ?_)
      ·
        have h52p : ¬ ((readX s).2 = 0) := bne_iff_ne.1 h52
        have o53 : (Builtin.len_ #[22] 3 #[v48]).run Try.prog w46 = .ok (.int .i64 (((List.length ((readX s).1)) : Nat) : Int)) w46 := f_slen sT22 (hM51.rd 0 rfl) 3 _
        have o54 : (IntKind.i64 = IntKind.i64) ∧ w46 = w46 ∧ Value.bool true = .bool ((((List.length ((readX s).1)) : Nat) : Int) == 0) := ⟨rfl, rfl, congrArg Value.bool (Eq.symm (by rw [readX_fail (bne_iff_ne.1 h52)]; rfl))⟩
        have hM55 : Mem [] w w46 ((((atR 3 Y11 ((readX (packP L)).1) 0 (List.length ((readX (packP L)).1))) ++ (atR 3 Y18 ((readX ((packP L) ++ more)).1) 0 (List.length ((readX ((packP L) ++ more)).1)))) ++ (atR 3 Y49 ((readX s).1) 0 (List.length ((readX s).1))))) := hM51.sub (List.Sublist.cons _ (List.Sublist.refl _))
        refine GoS.run [6] [.n, .n, .n, .h (.int .i64 (((List.length ((readX s).1)) : Nat) : Int)), .h (.bool true), .n, .n] _ [.code (csub (cd Try.f5) [1,1,1,1,1,0,1,0,1]), .code (csub (cd Try.f5) [1,1,1,1,1,1])] [(6, .bool true)] w46 (by kernel_rfl) (.cons o53 (.cons o54 .nil)) ?_
        refine GoS.ret (fn := Try.f5) (v := (.bool true)) Try.func5 (by kernel_rfl) ?_
        rw [hR]
        exact ⟨rfl, (hM55.sub (List.nil_sublist _)).below⟩
      ·
        have h52p : (readX s).2 = 0 := p_eq h52
        refine GoS.run [1, 13] [.n] _ [.code (csub (cd Try.f5) [1,1,1,1,1,1])] [(1, .string (sb s)), (13, v48)] w46 (by kernel_rfl) .nil ?_
        refine GoS.run [1, 65] [.n, .n, .n] _ [.inRegion (cops (csub (cd Try.f5) [1,1,1,1,1,1,0])) [1,2,3,4,5,6], .code (csub (cd Try.f5) [1,1,1,1,1,1,1])] [(1, .string (sb s)), (65, v48)] w46 (by kernel_rfl) .nil ?_
        refine GoS.call [1] 11 #[v48] (some 66) [.inRegion (cops (csub (cd Try.f5) [1,1,1,1,1,1,0])) [2,3,4,5,6], .code (csub (cd Try.f5) [1,1,1,1,1,1,1])] [(1, .string (sb s))] (by kernel_rfl) (ppack_c v48 ((readX s).1) Y49 (hM51.rd 0 rfl) (fun j_ hj_ => hM51.rdm (List.mem_cons_of_mem _ (List.mem_append_right _ (atR_mem (Nat.zero_le _) (by rw [Nat.zero_add]; exact hj_)))))) ?_
        rintro _ w56 ⟨rfl, m57⟩
        refine ⟨_, rfl, ?_⟩
        have hM58 := Mem.join hM51 m57
        have o59 : (IntKind.i64 = IntKind.i64) ∧ w56 = w56 ∧ Value.bool true = .bool ((ckP (-1) ((readX s).1)) == 0) := ⟨rfl, rfl, congrArg Value.bool (Eq.symm (by rw [(back2 (p_eq h52)).1]; rfl))⟩
        have o60 : (binOp .eql 9 (.string (sb (packP ((readX s).1)))) (.string (sb s))).run Try.prog w56 = .ok (.bool true) w56 := f_streq_yes ((back2 (p_eq h52)).2)
        have hM61 : Mem [] w w56 ((((atR 3 Y11 ((readX (packP L)).1) 0 (List.length ((readX (packP L)).1))) ++ (atR 3 Y18 ((readX ((packP L) ++ more)).1) 0 (List.length ((readX ((packP L) ++ more)).1)))) ++ (atR 3 Y49 ((readX s).1) 0 (List.length ((readX s).1))))) := hM58.sub (List.Sublist.cons _ (List.Sublist.refl _))
        refine GoS.run [6] [.n, .n, .n, .n, .n, .n, .n, .n, .n, .h (.bool true), .n, .n, .n, .h (.bool true), .n, .n, .n] _ [.code (csub (cd Try.f5) [1,1,1,1,1,1,1,1])] [(6, .bool true)] w56 (by kernel_rfl) (.cons o59 (.cons o60 .nil)) ?_
        refine GoS.ret (fn := Try.f5) (v := (.bool true)) Try.func5 (by kernel_rfl) ?_
        rw [hR]
        exact ⟨rfl, (hM61.sub (List.nil_sublist _)).below⟩
  ·
    have h7p : ¬ ((ckP (-1) L) = 0) := p_ne h7
    refine GoS.run [1] [.n] _ [.code (csub (cd Try.f5) [1,1,1,1])] [(1, .string (sb s))] w4 (by kernel_rfl) .nil ?_
    refine GoS.run [1, 55] [.n, .n, .n] _ [.inRegion (cops (csub (cd Try.f5) [1,1,1,1,0])) [1,2,3,4,5,6], .code (csub (cd Try.f5) [1,1,1,1,1])] [(1, .string (sb s)), (55, .string (sb s))] w4 (by kernel_rfl) .nil ?_
    refine GoS.call [1] 17 #[.string (sb s)] (some 56) [.inRegion (cops (csub (cd Try.f5) [1,1,1,1,0])) [2,3,4,5,6], .code (csub (cd Try.f5) [1,1,1,1,1])] [(1, .string (sb s))] (by kernel_rfl) (pread_c s (by first | omega | (rw [List.length_append]; omega)) w4) ?_
    rintro _ w62 ⟨v64, Y65, rfl, m63⟩
    refine ⟨_, rfl, ?_⟩
    have hM66 := Mem.join hM6 m63
    have hM67 : Mem [] w w62 (⟨40, 2, v64, (List.length ((readX s).1)), (pcells ((readX s).1) Y65)⟩ :: (atR 3 Y65 ((readX s).1) 0 (List.length ((readX s).1)))) := Mem.swapT (A := [⟨40, 2, v64, (List.length ((readX s).1)), (pcells ((readX s).1) Y65)⟩]) (B := (atR 3 Y65 ((readX s).1) 0 (List.length ((readX s).1)))) (C := []) hM66
    refine GoS.run [1, 13, 60] [.n, .n, .n, .n, .n, .n, .n, .n, .n, .n, .n, .n] _ [.code (csub (cd Try.f5) [1,1,1,1,1,0,1]), .code (csub (cd Try.f5) [1,1,1,1,1,1])] [(1, .string (sb s)), (13, v64), (60, .bool ((readX s).2 != 0))] w62 (by kernel_rfl) .nil ?_
    refine GoS.cond ((readX s).2 != 0) [.code (csub (cd Try.f5) [1,1,1,1,1,0,1,0]), .code (csub (cd Try.f5) [1,1,1,1,1,1])] [.code (csub (cd Try.f5) [1,1,1,1,1,0,1,1]), .code (csub (cd Try.f5) [1,1,1,1,1,1])] (by kernel_rfl) (fun h68 => ?_) (fun h68 => ?_)
    ·
      have h68p : ¬ ((readX s).2 = 0) := bne_iff_ne.1 h68
      have o69 : (Builtin.len_ #[22] 3 #[v64]).run Try.prog w62 = .ok (.int .i64 (((List.length ((readX s).1)) : Nat) : Int)) w62 := f_slen sT22 (hM67.rd 0 rfl) 3 _
      have o70 : (IntKind.i64 = IntKind.i64) ∧ w62 = w62 ∧ Value.bool true = .bool ((((List.length ((readX s).1)) : Nat) : Int) == 0) := ⟨rfl, rfl, congrArg Value.bool (Eq.symm (by rw [readX_fail (bne_iff_ne.1 h68)]; rfl))⟩
      have hM71 : Mem [] w w62 ((atR 3 Y65 ((readX s).1) 0 (List.length ((readX s).1)))) := hM67.sub (List.Sublist.cons _ (List.Sublist.refl _))
      refine GoS.run [6] [.n, .n, .n, .h (.int .i64 (((List.length ((readX s).1)) : Nat) : Int)), .h (.bool true), .n, .n] _ [.code (csub (cd Try.f5) [1,1,1,1,1,0,1,0,1]), .code (csub (cd Try.f5) [1,1,1,1,1,1])] [(6, .bool true)] w62 (by kernel_rfl) (.cons o69 (.cons o70 .nil)) ?_
      refine GoS.ret (fn := Try.f5) (v := (.bool true)) Try.func5 (by kernel_rfl) ?_
      rw [hR]
      exact ⟨rfl, (hM71.sub (List.nil_sublist _)).below⟩
    ·
      have h68p : (readX s).2 = 0 := p_eq h68
      refine GoS.run [1, 13] [.n] _ [.code (csub (cd Try.f5) [1,1,1,1,1,1])] [(1, .string (sb s)), (13, v64)] w62 (by kernel_rfl) .nil ?_
      refine GoS.run [1, 65] [.n, .n, .n] _ [.inRegion (cops (csub (cd Try.f5) [1,1,1,1,1,1,0])) [1,2,3,4,5,6], .code (csub (cd Try.f5) [1,1,1,1,1,1,1])] [(1, .string (sb s)), (65, v64)] w62 (by kernel_rfl) .nil ?_
      refine GoS.call [1] 11 #[v64] (some 66) [.inRegion (cops (csub (cd Try.f5) [1,1,1,1,1,1,0])) [2,3,4,5,6], .code (csub (cd Try.f5) [1,1,1,1,1,1,1])] [(1, .string (sb s))] (by kernel_rfl) (ppack_c v64 ((readX s).1) Y65 (hM67.rd 0 rfl) (fun j_ hj_ => hM67.rdm (List.mem_cons_of_mem _ (atR_mem (Nat.zero_le _) (by rw [Nat.zero_add]; exact hj_))))) ?_
      rintro _ w72 ⟨rfl, m73⟩
      refine ⟨_, rfl, ?_⟩
      have hM74 := Mem.join hM67 m73
      have o75 : (IntKind.i64 = IntKind.i64) ∧ w72 = w72 ∧ Value.bool true = .bool ((ckP (-1) ((readX s).1)) == 0) := ⟨rfl, rfl, congrArg Value.bool (Eq.symm (by rw [(back2 (p_eq h68)).1]; rfl))⟩
      have o76 : (binOp .eql 9 (.string (sb (packP ((readX s).1)))) (.string (sb s))).run Try.prog w72 = .ok (.bool true) w72 := f_streq_yes ((back2 (p_eq h68)).2)
      have hM77 : Mem [] w w72 ((atR 3 Y65 ((readX s).1) 0 (List.length ((readX s).1)))) := hM74.sub (List.Sublist.cons _ (List.Sublist.refl _))
      refine GoS.run [6] [.n, .n, .n, .n, .n, .n, .n, .n, .n, .h (.bool true), .n, .n, .n, .h (.bool true), .n, .n, .n] _ [.code (csub (cd Try.f5) [1,1,1,1,1,1,1,1])] [(6, .bool true)] w72 (by kernel_rfl) (.cons o75 (.cons o76 .nil)) ?_
      refine GoS.ret (fn := Try.f5) (v := (.bool true)) Try.func5 (by kernel_rfl) ?_
      rw [hR]
      exact ⟨rfl, (hM77.sub (List.nil_sublist _)).below⟩


end Go.Proofs.Ythimiheeheaaaaa
