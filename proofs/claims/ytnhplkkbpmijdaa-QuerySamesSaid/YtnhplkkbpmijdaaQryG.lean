/-
  The walks of letters and nothing.
-/
import Derived.Test.YtnhplkkbpmijdaaQryD
namespace Go.Proofs.Ytnhplkkbpmijdaa
open Go Go.Gw Go.UtfP Go.TokP Go.QryP Go.RowKit
set_option linter.unusedVariables false
set_option linter.unusedSimpArgs false


set_option maxHeartbeats 400000 in
theorem letters_c (s m : List UInt8) (hs : s.length ≤ 1048576) (hm : m.length ≤ 1048576) (w : World) :
    Calls Try.prog 31 #[.string (sb s), .string (sb m)] w (fun e w' => e = .returned (.int .i64 ((letN s m : Nat) : Int)) ∧ Mem [] w w' []) := by
  obtain ⟨R, hR⟩ : ∃ R : Ending → World → Prop, R = (fun e w' => e = .returned (.int .i64 ((letN s m : Nat) : Int)) ∧ Mem [] w w' []) := ⟨_, rfl⟩
  rw [← hR]
  refine GoS.enter (n := 17) Try.func31 (by kernel_rfl) rfl [(0, .string (sb s)), (1, .string (sb m))] (by kernel_rfl) (by kernel_rfl) ?_
  have hM0 := Mem.start w
  refine GoS.run [8, 9] [.n, .n, .n, .n, .n, .n, .n, .n] _ [.inRegion (cops (csub (cd Try.f31) [1,0])) [2,3,4,5,6,7], .code (csub (cd Try.f31) [1,1])] [(8, .string (sb s)), (9, .string (sb m))] w (by kernel_rfl) .nil ?_
  refine GoS.call [] 38 #[.string (sb s), .string (sb m)] (some 10) [.inRegion (cops (csub (cd Try.f31) [1,0])) [3,4,5,6,7], .code (csub (cd Try.f31) [1,1])] [] (by kernel_rfl) (rlet_c s m (by omega) (by omega) w) ?_
  rintro _ w1 ⟨v4, rfl, m2⟩
  refine ⟨_, rfl, ?_⟩
  have hM3 := Mem.join hM0 m2
  refine GoS.run [5, 14] [.n, .n, .n, .n, .n, .n, .n, .n, .n, .n, .n, .n] _ [.code (csub (cd Try.f31) [1,1,0,1]), .code (csub (cd Try.f31) [1,1,1])] [(5, v4), (14, .bool ((letP s m) != 0))] w1 (by kernel_rfl) .nil ?_
  refine GoS.cond ((letP s m) != 0) [.code (csub (cd Try.f31) [1,1,0,1,0]), .code (csub (cd Try.f31) [1,1,1])] [.code (csub (cd Try.f31) [1,1,0,1,1]), .code (csub (cd Try.f31) [1,1,1])] (by kernel_rfl) (fun h5 => ?_) (fun h5 => ?_)
  ·
    have h5p : ¬ ((letP s m) = 0) := bne_iff_ne.1 h5
    have hM6 : Mem [] w w1 [] := hM3.sub (cn (List.Sublist.refl _))
    refine GoS.run [4] [.n, .n, .n, .n] _ [.code (csub (cd Try.f31) [1,1,0,1,0,1]), .code (csub (cd Try.f31) [1,1,1])] [(4, .int .i64 0)] w1 (by kernel_rfl) .nil ?_
    refine GoS.ret (fn := Try.f31) (v := (.int .i64 0)) Try.func31 (by kernel_rfl) ?_
    rw [hR]
    exact ⟨ret_int (by rw [letN_no (by omega)]; rfl), hM6.sub (List.nil_sublist _)⟩
  ·
    have h5p : (letP s m) = 0 := p_eq h5
    refine GoS.run [5] [.n] _ [.code (csub (cd Try.f31) [1,1,1])] [(5, v4)] w1 (by kernel_rfl) .nil ?_
    have o7 : (Builtin.len_ #[46] 3 #[v4]).run Try.prog w1 = .ok (.int .i64 (((List.length (letL s m)) : Nat) : Int)) w1 := f_slen sT46 (hM3.rd 0 rfl) 3 _
    have hM8 : Mem [] w w1 [] := hM3.sub (cn (List.Sublist.refl _))
    refine GoS.run [4] [.n, .n, .n, .h (.int .i64 (((List.length (letL s m)) : Nat) : Int)), .n, .n] _ [.code (csub (cd Try.f31) [1,1,1,1])] [(4, .int .i64 (((List.length (letL s m)) : Nat) : Int))] w1 (by kernel_rfl) (.cons o7 .nil) ?_
    refine GoS.ret (fn := Try.f31) (v := (.int .i64 (((List.length (letL s m)) : Nat) : Int))) Try.func31 (by kernel_rfl) ?_
    rw [hR]
    exact ⟨ret_int (by rw [(let_pos (by omega)).2.1, ← (let_pos (by omega)).2.2]), hM8.sub (List.nil_sublist _)⟩

set_option maxHeartbeats 1000000 in
theorem noth_c {w : World} (h : Hd) (v : Value) (t d n : Bool) :
    Calls Try.prog 28 #[(qA h v), .bool t, .bool d, .bool n] w (fun e w' => e = .returned (.bool (nothP h t d n)) ∧ Mem [] w w' []) := by
  obtain ⟨R, hR⟩ : ∃ R : Ending → World → Prop, R = (fun e w' => e = .returned (.bool (nothP h t d n)) ∧ Mem [] w w' []) := ⟨_, rfl⟩
  rw [← hR]
  refine GoS.enter (n := 41) Try.func28 (by kernel_rfl) rfl [(0, (qA h v)), (1, .bool t), (2, .bool d), (3, .bool n)] (by kernel_rfl) (by kernel_rfl) ?_
  have hM0 := Mem.start w
  obtain ⟨b1, w2, hr3, hM4⟩ := m_box (T := 25) (k := 8) (u := (qA h v)) rfl rfl hM0
  have hM5 : Mem [] w w2 [⟨25, 8, (obj b1), 1, (qR h v)⟩] := hM4
  have o6 : (Instr.box 25 ((qA h v))).run Try.prog w = .ok (pq b1) w2 := hr3
  refine GoS.run [2, 3, 4, 10] [.n, .n, .u (pq b1) (w2), .n, .n, .n, .n, .n, .n] _ [.inRegion (cops (csub (cd Try.f28) [1,0])) [2,3,4,5,6,7,8,9,10,11,12,13,14,15,16,17,18,19,20,21,22,23,24,25,26,27,28,29,30,31,32], .code (csub (cd Try.f28) [1,1])] [(2, .bool d), (3, .bool n), (4, pq b1), (10, .bool t)] w2 (by kernel_rfl) (.cons o6 .nil) ?_
  refine GoS.fork 10 t (by kernel_rfl) (fun h7 => ?_) (fun h7 => ?_)
  ·
    refine GoS.run [3, 4, 15, 17] [.n, .n, .n, .n, .n, .n, .n] _ [.inRegion (cops (csub (cd Try.f28) [1,0])) [9,10,11,12,13,14,15,16,17,18,19,20,21,22,23,24,25,26,27,28,29,30,31,32], .code (csub (cd Try.f28) [1,1])] [(3, .bool n), (4, pq b1), (15, .bool true), (17, .bool d)] w2 (by kernel_rfl) .nil ?_
    refine GoS.fork 17 d (by kernel_rfl) (fun h8 => ?_) (fun h8 => ?_)
    ·
      refine GoS.run [4, 28, 30] [.n, .n, .n, .n, .n, .n, .n, .n, .n, .n, .n, .n, .n] _ [.inRegion (cops (csub (cd Try.f28) [1,0])) [22,23,24,25,26,27,28,29,30,31,32], .code (csub (cd Try.f28) [1,1])] [(4, pq b1), (28, .bool true), (30, .bool n)] w2 (by kernel_rfl) .nil ?_
      refine GoS.fork 30 n (by kernel_rfl) (fun h9 => ?_) (fun h9 => ?_)
      ·
        have hM10 : Mem [] w w2 [] := hM5.sub (cn (List.Sublist.refl _))
        refine GoS.run [8] [.n, .n, .n, .n, .n, .n, .n, .n, .n, .n, .n] _ [.inRegion (cops (csub (cd Try.f28) [1,0])) [], .code (csub (cd Try.f28) [1,1])] [(8, .bool true)] w2 (by kernel_rfl) .nil ?_
        refine GoS.run [8] [.n] _ [.code (csub (cd Try.f28) [1,1])] [(8, .bool true)] w2 (by kernel_rfl) .nil ?_
        refine GoS.ret (fn := Try.f28) (v := (.bool true)) Try.func28 (by kernel_rfl) ?_
        rw [hR]
        exact ⟨ret_bool (by unfold nothP; first | (simp [h7, h8, h9, h7p, h8p, h9p]; done) | (simp_all; done) | (simp_all; rw [Bool.eq_iff_iff]; simp; done)), hM10.sub (List.nil_sublist _)⟩
      ·
        have o11 : (Instr.loadAt 22 (.pointer (some (⟨b1, 5, none⟩)))).run Try.prog w2 = .ok (.int .u64 (h.lo)) w2 := c_load pE22 (hM5.rd 0 rfl) (cel_obj b1 5) rfl
        refine GoS.run [4, 28, 30, 34] [.n, .h (.int .u64 (h.lo)), .n, .n] _ [.inRegion (cops (csub (cd Try.f28) [1,0])) [26,27,28,29,30,31,32], .code (csub (cd Try.f28) [1,1])] [(4, pq b1), (28, .bool true), (30, .bool false), (34, .bool (h.lo == 0))] w2 (by kernel_rfl) (.cons o11 .nil) ?_
        refine GoS.fork 34 (h.lo == 0) (by kernel_rfl) (fun h12 => ?_) (fun h12 => ?_)
        ·
          have h12p : h.lo = 0 := eq_of_beq h12
          have o13 : (Instr.loadAt 22 (.pointer (some (⟨b1, 6, none⟩)))).run Try.prog w2 = .ok (.int .u64 (h.hi)) w2 := c_load pE22 (hM5.rd 0 rfl) (cel_obj b1 6) rfl
          have hM14 : Mem [] w w2 [] := hM5.sub (cn (List.Sublist.refl _))
          refine GoS.run [8] [.n, .h (.int .u64 (h.hi)), .n, .n, .n, .n, .n] _ [.inRegion (cops (csub (cd Try.f28) [1,0])) [], .code (csub (cd Try.f28) [1,1])] [(8, .bool (h.hi == 0))] w2 (by kernel_rfl) (.cons o13 .nil) ?_
          refine GoS.run [8] [.n] _ [.code (csub (cd Try.f28) [1,1])] [(8, .bool (h.hi == 0))] w2 (by kernel_rfl) .nil ?_
          refine GoS.ret (fn := Try.f28) (v := (.bool (h.hi == 0))) Try.func28 (by kernel_rfl) ?_
          rw [hR]
          exact ⟨ret_bool (by unfold nothP; first | (simp [h7, h8, h9, h12, h7p, h8p, h9p, h12p]; done) | (simp_all; done) | (simp_all; rw [Bool.eq_iff_iff]; simp; done)), hM14.sub (List.nil_sublist _)⟩
        ·
          have h12p : ¬ (h.lo = 0) := p_ne h12
          have hM15 : Mem [] w w2 [] := hM5.sub (cn (List.Sublist.refl _))
          refine GoS.run [8] [.n, .n, .n, .n, .n, .n, .n] _ [.inRegion (cops (csub (cd Try.f28) [1,0])) [], .code (csub (cd Try.f28) [1,1])] [(8, .bool false)] w2 (by kernel_rfl) .nil ?_
          refine GoS.run [8] [.n] _ [.code (csub (cd Try.f28) [1,1])] [(8, .bool false)] w2 (by kernel_rfl) .nil ?_
          refine GoS.ret (fn := Try.f28) (v := (.bool false)) Try.func28 (by kernel_rfl) ?_
          rw [hR]
          exact ⟨ret_bool (by unfold nothP; first | (simp [h7, h8, h9, h12, h7p, h8p, h9p, h12p]; done) | (simp_all; done) | (simp_all; rw [Bool.eq_iff_iff]; simp; done)), hM15.sub (List.nil_sublist _)⟩
    ·
      have o16 : (Instr.loadAt 3 (.pointer (some (⟨b1, 3, none⟩)))).run Try.prog w2 = .ok (.int .i64 (h.edits)) w2 := c_load pE3 (hM5.rd 0 rfl) (cel_obj b1 3) rfl
      refine GoS.run [3, 4, 15, 17, 21] [.n, .h (.int .i64 (h.edits)), .n, .n] _ [.inRegion (cops (csub (cd Try.f28) [1,0])) [13,14,15,16,17,18,19,20,21,22,23,24,25,26,27,28,29,30,31,32], .code (csub (cd Try.f28) [1,1])] [(3, .bool n), (4, pq b1), (15, .bool true), (17, .bool false), (21, .bool (h.edits == 0))] w2 (by kernel_rfl) (.cons o16 .nil) ?_
      refine GoS.fork 21 (h.edits == 0) (by kernel_rfl) (fun h17 => ?_) (fun h17 => ?_)
      ·
        have h17p : h.edits = 0 := eq_of_beq h17
        have o18 : (Instr.loadAt 3 (.pointer (some (⟨b1, 4, none⟩)))).run Try.prog w2 = .ok (.int .i64 (h.exact)) w2 := c_load pE3 (hM5.rd 0 rfl) (cel_obj b1 4) rfl
        refine GoS.run [3, 4, 28] [.n, .h (.int .i64 (h.exact)), .n, .n, .n, .n, .n] _ [.inRegion (cops (csub (cd Try.f28) [1,0])) [20,21,22,23,24,25,26,27,28,29,30,31,32], .code (csub (cd Try.f28) [1,1])] [(3, .bool n), (4, pq b1), (28, .bool (h.exact == 0))] w2 (by kernel_rfl) (.cons o18 .nil) ?_
        refine GoS.fork 28 (h.exact == 0) (by kernel_rfl) (fun h19 => ?_) (fun h19 => ?_)
        ·
          have h19p : h.exact = 0 := eq_of_beq h19
          refine GoS.run [4, 28, 30] [.n, .n] _ [.inRegion (cops (csub (cd Try.f28) [1,0])) [22,23,24,25,26,27,28,29,30,31,32], .code (csub (cd Try.f28) [1,1])] [(4, pq b1), (28, .bool true), (30, .bool n)] w2 (by kernel_rfl) .nil ?_
          refine GoS.fork 30 n (by kernel_rfl) (fun h20 => ?_) (fun h20 => ?_)
          ·
            have hM21 : Mem [] w w2 [] := hM5.sub (cn (List.Sublist.refl _))
            refine GoS.run [8] [.n, .n, .n, .n, .n, .n, .n, .n, .n, .n, .n] _ [.inRegion (cops (csub (cd Try.f28) [1,0])) [], .code (csub (cd Try.f28) [1,1])] [(8, .bool true)] w2 (by kernel_rfl) .nil ?_
            refine GoS.run [8] [.n] _ [.code (csub (cd Try.f28) [1,1])] [(8, .bool true)] w2 (by kernel_rfl) .nil ?_
            refine GoS.ret (fn := Try.f28) (v := (.bool true)) Try.func28 (by kernel_rfl) ?_
            rw [hR]
            exact ⟨ret_bool (by unfold nothP; first | (simp [h7, h8, h17, h19, h20, h7p, h8p, h17p, h19p, h20p]; done) | (simp_all; done) | (simp_all; rw [Bool.eq_iff_iff]; simp; done)), hM21.sub (List.nil_sublist _)⟩
          ·
            have o22 : (Instr.loadAt 22 (.pointer (some (⟨b1, 5, none⟩)))).run Try.prog w2 = .ok (.int .u64 (h.lo)) w2 := c_load pE22 (hM5.rd 0 rfl) (cel_obj b1 5) rfl
            refine GoS.run [4, 28, 30, 34] [.n, .h (.int .u64 (h.lo)), .n, .n] _ [.inRegion (cops (csub (cd Try.f28) [1,0])) [26,27,28,29,30,31,32], .code (csub (cd Try.f28) [1,1])] [(4, pq b1), (28, .bool true), (30, .bool false), (34, .bool (h.lo == 0))] w2 (by kernel_rfl) (.cons o22 .nil) ?_
            refine GoS.fork 34 (h.lo == 0) (by kernel_rfl) (fun h23 => ?_) (fun h23 => ?_)
            ·
              have h23p : h.lo = 0 := eq_of_beq h23
              have o24 : (Instr.loadAt 22 (.pointer (some (⟨b1, 6, none⟩)))).run Try.prog w2 = .ok (.int .u64 (h.hi)) w2 := c_load pE22 (hM5.rd 0 rfl) (cel_obj b1 6) rfl
              have hM25 : Mem [] w w2 [] := hM5.sub (cn (List.Sublist.refl _))
              refine GoS.run [8] [.n, .h (.int .u64 (h.hi)), .n, .n, .n, .n, .n] _ [.inRegion (cops (csub (cd Try.f28) [1,0])) [], .code (csub (cd Try.f28) [1,1])] [(8, .bool (h.hi == 0))] w2 (by kernel_rfl) (.cons o24 .nil) ?_
              refine GoS.run [8] [.n] _ [.code (csub (cd Try.f28) [1,1])] [(8, .bool (h.hi == 0))] w2 (by kernel_rfl) .nil ?_
              refine GoS.ret (fn := Try.f28) (v := (.bool (h.hi == 0))) Try.func28 (by kernel_rfl) ?_
              rw [hR]
              exact ⟨ret_bool (by unfold nothP; first | (simp [h7, h8, h17, h19, h20, h23, h7p, h8p, h17p, h19p, h20p, h23p]; done) | (simp_all; done) | (simp_all; rw [Bool.eq_iff_iff]; simp; done)), hM25.sub (List.nil_sublist _)⟩
            ·
              have h23p : ¬ (h.lo = 0) := p_ne h23
              have hM26 : Mem [] w w2 [] := hM5.sub (cn (List.Sublist.refl _))
              refine GoS.run [8] [.n, .n, .n, .n, .n, .n, .n] _ [.inRegion (cops (csub (cd Try.f28) [1,0])) [], .code (csub (cd Try.f28) [1,1])] [(8, .bool false)] w2 (by kernel_rfl) .nil ?_
              refine GoS.run [8] [.n] _ [.code (csub (cd Try.f28) [1,1])] [(8, .bool false)] w2 (by kernel_rfl) .nil ?_
              refine GoS.ret (fn := Try.f28) (v := (.bool false)) Try.func28 (by kernel_rfl) ?_
              rw [hR]
              exact ⟨ret_bool (by unfold nothP; first | (simp [h7, h8, h17, h19, h20, h23, h7p, h8p, h17p, h19p, h20p, h23p]; done) | (simp_all; done) | (simp_all; rw [Bool.eq_iff_iff]; simp; done)), hM26.sub (List.nil_sublist _)⟩
        ·
          have h19p : ¬ (h.exact = 0) := p_ne h19
          have hM27 : Mem [] w w2 [] := hM5.sub (cn (List.Sublist.refl _))
          refine GoS.run [8] [.n, .n, .n, .n, .n, .n, .n, .n, .n, .n, .n, .n, .n] _ [.inRegion (cops (csub (cd Try.f28) [1,0])) [], .code (csub (cd Try.f28) [1,1])] [(8, .bool false)] w2 (by kernel_rfl) .nil ?_
          refine GoS.run [8] [.n] _ [.code (csub (cd Try.f28) [1,1])] [(8, .bool false)] w2 (by kernel_rfl) .nil ?_
          refine GoS.ret (fn := Try.f28) (v := (.bool false)) Try.func28 (by kernel_rfl) ?_
          rw [hR]
          exact ⟨ret_bool (by unfold nothP; first | (simp [h7, h8, h17, h19, h7p, h8p, h17p, h19p]; done) | (simp_all; done) | (simp_all; rw [Bool.eq_iff_iff]; simp; done)), hM27.sub (List.nil_sublist _)⟩
      ·
        have h17p : ¬ (h.edits = 0) := p_ne h17
        have hM28 : Mem [] w w2 [] := hM5.sub (cn (List.Sublist.refl _))
        refine GoS.run [8] [.n, .n, .n, .n, .n, .n, .n, .n, .n, .n, .n, .n, .n, .n, .n, .n, .n, .n, .n, .n] _ [.inRegion (cops (csub (cd Try.f28) [1,0])) [], .code (csub (cd Try.f28) [1,1])] [(8, .bool false)] w2 (by kernel_rfl) .nil ?_
        refine GoS.run [8] [.n] _ [.code (csub (cd Try.f28) [1,1])] [(8, .bool false)] w2 (by kernel_rfl) .nil ?_
        refine GoS.ret (fn := Try.f28) (v := (.bool false)) Try.func28 (by kernel_rfl) ?_
        rw [hR]
        exact ⟨ret_bool (by unfold nothP; first | (simp [h7, h8, h17, h7p, h8p, h17p]; done) | (simp_all; done) | (simp_all; rw [Bool.eq_iff_iff]; simp; done)), hM28.sub (List.nil_sublist _)⟩
  ·
    have o29 : (Instr.loadAt 9 (.pointer (some (⟨b1, 2, none⟩)))).run Try.prog w2 = .ok (.string (sb (h.text))) w2 := c_load pE9 (hM5.rd 0 rfl) (cel_obj b1 2) rfl
    have o30 : (binOp .eql 9 (.string (sb (h.text))) (.string (sb ([])))).run Try.prog w2 = .ok (.bool (decide (h.text = []))) w2 := f_streq
    refine GoS.run [2, 3, 4, 15] [.n, .h (.string (sb (h.text))), .h (.bool (decide (h.text = []))), .n, .n] _ [.inRegion (cops (csub (cd Try.f28) [1,0])) [7,8,9,10,11,12,13,14,15,16,17,18,19,20,21,22,23,24,25,26,27,28,29,30,31,32], .code (csub (cd Try.f28) [1,1])] [(2, .bool d), (3, .bool n), (4, pq b1), (15, .bool (decide (h.text = [])))] w2 (by kernel_rfl) (.cons o29 (.cons o30 .nil)) ?_
    refine GoS.fork 15 (decide (h.text = [])) (by kernel_rfl) (fun h31 => ?_) (fun h31 => ?_)
    ·
      have h31p : h.text = [] := of_decide_eq_true h31
      refine GoS.run [3, 4, 15, 17] [.n, .n] _ [.inRegion (cops (csub (cd Try.f28) [1,0])) [9,10,11,12,13,14,15,16,17,18,19,20,21,22,23,24,25,26,27,28,29,30,31,32], .code (csub (cd Try.f28) [1,1])] [(3, .bool n), (4, pq b1), (15, .bool true), (17, .bool d)] w2 (by kernel_rfl) .nil ?_
      refine GoS.fork 17 d (by kernel_rfl) (fun h32 => ?_) (fun h32 => ?_)
      ·
        refine GoS.run [4, 28, 30] [.n, .n, .n, .n, .n, .n, .n, .n, .n, .n, .n, .n, .n] _ [.inRegion (cops (csub (cd Try.f28) [1,0])) [22,23,24,25,26,27,28,29,30,31,32], .code (csub (cd Try.f28) [1,1])] [(4, pq b1), (28, .bool true), (30, .bool n)] w2 (by kernel_rfl) .nil ?_
        refine GoS.fork 30 n (by kernel_rfl) (fun h33 => ?_) (fun h33 => ?_)
        ·
          have hM34 : Mem [] w w2 [] := hM5.sub (cn (List.Sublist.refl _))
          refine GoS.run [8] [.n, .n, .n, .n, .n, .n, .n, .n, .n, .n, .n] _ [.inRegion (cops (csub (cd Try.f28) [1,0])) [], .code (csub (cd Try.f28) [1,1])] [(8, .bool true)] w2 (by kernel_rfl) .nil ?_
          refine GoS.run [8] [.n] _ [.code (csub (cd Try.f28) [1,1])] [(8, .bool true)] w2 (by kernel_rfl) .nil ?_
          refine GoS.ret (fn := Try.f28) (v := (.bool true)) Try.func28 (by kernel_rfl) ?_
          rw [hR]
          exact ⟨ret_bool (by unfold nothP; first | (simp [h7, h31, h32, h33, h7p, h31p, h32p, h33p]; done) | (simp_all; done) | (simp_all; rw [Bool.eq_iff_iff]; simp; done)), hM34.sub (List.nil_sublist _)⟩
        ·
          have o35 : (Instr.loadAt 22 (.pointer (some (⟨b1, 5, none⟩)))).run Try.prog w2 = .ok (.int .u64 (h.lo)) w2 := c_load pE22 (hM5.rd 0 rfl) (cel_obj b1 5) rfl
          refine GoS.run [4, 28, 30, 34] [.n, .h (.int .u64 (h.lo)), .n, .n] _ [.inRegion (cops (csub (cd Try.f28) [1,0])) [26,27,28,29,30,31,32], .code (csub (cd Try.f28) [1,1])] [(4, pq b1), (28, .bool true), (30, .bool false), (34, .bool (h.lo == 0))] w2 (by kernel_rfl) (.cons o35 .nil) ?_
          refine GoS.fork 34 (h.lo == 0) (by kernel_rfl) (fun h36 => ?_) (fun h36 => ?_)
          ·
            have h36p : h.lo = 0 := eq_of_beq h36
            have o37 : (Instr.loadAt 22 (.pointer (some (⟨b1, 6, none⟩)))).run Try.prog w2 = .ok (.int .u64 (h.hi)) w2 := c_load pE22 (hM5.rd 0 rfl) (cel_obj b1 6) rfl
            have hM38 : Mem [] w w2 [] := hM5.sub (cn (List.Sublist.refl _))
            refine GoS.run [8] [.n, .h (.int .u64 (h.hi)), .n, .n, .n, .n, .n] _ [.inRegion (cops (csub (cd Try.f28) [1,0])) [], .code (csub (cd Try.f28) [1,1])] [(8, .bool (h.hi == 0))] w2 (by kernel_rfl) (.cons o37 .nil) ?_
            refine GoS.run [8] [.n] _ [.code (csub (cd Try.f28) [1,1])] [(8, .bool (h.hi == 0))] w2 (by kernel_rfl) .nil ?_
            refine GoS.ret (fn := Try.f28) (v := (.bool (h.hi == 0))) Try.func28 (by kernel_rfl) ?_
            rw [hR]
            exact ⟨ret_bool (by unfold nothP; first | (simp [h7, h31, h32, h33, h36, h7p, h31p, h32p, h33p, h36p]; done) | (simp_all; done) | (simp_all; rw [Bool.eq_iff_iff]; simp; done)), hM38.sub (List.nil_sublist _)⟩
          ·
            have h36p : ¬ (h.lo = 0) := p_ne h36
            have hM39 : Mem [] w w2 [] := hM5.sub (cn (List.Sublist.refl _))
            refine GoS.run [8] [.n, .n, .n, .n, .n, .n, .n] _ [.inRegion (cops (csub (cd Try.f28) [1,0])) [], .code (csub (cd Try.f28) [1,1])] [(8, .bool false)] w2 (by kernel_rfl) .nil ?_
            refine GoS.run [8] [.n] _ [.code (csub (cd Try.f28) [1,1])] [(8, .bool false)] w2 (by kernel_rfl) .nil ?_
            refine GoS.ret (fn := Try.f28) (v := (.bool false)) Try.func28 (by kernel_rfl) ?_
            rw [hR]
            exact ⟨ret_bool (by unfold nothP; first | (simp [h7, h31, h32, h33, h36, h7p, h31p, h32p, h33p, h36p]; done) | (simp_all; done) | (simp_all; rw [Bool.eq_iff_iff]; simp; done)), hM39.sub (List.nil_sublist _)⟩
      ·
        have o40 : (Instr.loadAt 3 (.pointer (some (⟨b1, 3, none⟩)))).run Try.prog w2 = .ok (.int .i64 (h.edits)) w2 := c_load pE3 (hM5.rd 0 rfl) (cel_obj b1 3) rfl
        refine GoS.run [3, 4, 15, 17, 21] [.n, .h (.int .i64 (h.edits)), .n, .n] _ [.inRegion (cops (csub (cd Try.f28) [1,0])) [13,14,15,16,17,18,19,20,21,22,23,24,25,26,27,28,29,30,31,32], .code (csub (cd Try.f28) [1,1])] [(3, .bool n), (4, pq b1), (15, .bool true), (17, .bool false), (21, .bool (h.edits == 0))] w2 (by kernel_rfl) (.cons o40 .nil) ?_
        refine GoS.fork 21 (h.edits == 0) (by kernel_rfl) (fun h41 => ?_) (fun h41 => ?_)
        ·
          have h41p : h.edits = 0 := eq_of_beq h41
          have o42 : (Instr.loadAt 3 (.pointer (some (⟨b1, 4, none⟩)))).run Try.prog w2 = .ok (.int .i64 (h.exact)) w2 := c_load pE3 (hM5.rd 0 rfl) (cel_obj b1 4) rfl
          refine GoS.run [3, 4, 28] [.n, .h (.int .i64 (h.exact)), .n, .n, .n, .n, .n] _ [.inRegion (cops (csub (cd Try.f28) [1,0])) [20,21,22,23,24,25,26,27,28,29,30,31,32], .code (csub (cd Try.f28) [1,1])] [(3, .bool n), (4, pq b1), (28, .bool (h.exact == 0))] w2 (by kernel_rfl) (.cons o42 .nil) ?_
          refine GoS.fork 28 (h.exact == 0) (by kernel_rfl) (fun h43 => ?_) (fun h43 => ?_)
          ·
            have h43p : h.exact = 0 := eq_of_beq h43
            refine GoS.run [4, 28, 30] [.n, .n] _ [.inRegion (cops (csub (cd Try.f28) [1,0])) [22,23,24,25,26,27,28,29,30,31,32], .code (csub (cd Try.f28) [1,1])] [(4, pq b1), (28, .bool true), (30, .bool n)] w2 (by kernel_rfl) .nil ?_
            refine GoS.fork 30 n (by kernel_rfl) (fun h44 => ?_) (fun h44 => ?_)
            ·
              have hM45 : Mem [] w w2 [] := hM5.sub (cn (List.Sublist.refl _))
              refine GoS.run [8] [.n, .n, .n, .n, .n, .n, .n, .n, .n, .n, .n] _ [.inRegion (cops (csub (cd Try.f28) [1,0])) [], .code (csub (cd Try.f28) [1,1])] [(8, .bool true)] w2 (by kernel_rfl) .nil ?_
              refine GoS.run [8] [.n] _ [.code (csub (cd Try.f28) [1,1])] [(8, .bool true)] w2 (by kernel_rfl) .nil ?_
              refine GoS.ret (fn := Try.f28) (v := (.bool true)) Try.func28 (by kernel_rfl) ?_
              rw [hR]
              exact ⟨ret_bool (by unfold nothP; first | (simp [h7, h31, h32, h41, h43, h44, h7p, h31p, h32p, h41p, h43p, h44p]; done) | (simp_all; done) | (simp_all; rw [Bool.eq_iff_iff]; simp; done)), hM45.sub (List.nil_sublist _)⟩
            ·
              have o46 : (Instr.loadAt 22 (.pointer (some (⟨b1, 5, none⟩)))).run Try.prog w2 = .ok (.int .u64 (h.lo)) w2 := c_load pE22 (hM5.rd 0 rfl) (cel_obj b1 5) rfl
              refine GoS.run [4, 28, 30, 34] [.n, .h (.int .u64 (h.lo)), .n, .n] _ [.inRegion (cops (csub (cd Try.f28) [1,0])) [26,27,28,29,30,31,32], .code (csub (cd Try.f28) [1,1])] [(4, pq b1), (28, .bool true), (30, .bool false), (34, .bool (h.lo == 0))] w2 (by kernel_rfl) (.cons o46 .nil) ?_
              refine GoS.fork 34 (h.lo == 0) (by kernel_rfl) (fun h47 => ?_) (fun h47 => ?_)
              ·
                have h47p : h.lo = 0 := eq_of_beq h47
                have o48 : (Instr.loadAt 22 (.pointer (some (⟨b1, 6, none⟩)))).run Try.prog w2 = .ok (.int .u64 (h.hi)) w2 := c_load pE22 (hM5.rd 0 rfl) (cel_obj b1 6) rfl
                have hM49 : Mem [] w w2 [] := hM5.sub (cn (List.Sublist.refl _))
                refine GoS.run [8] [.n, .h (.int .u64 (h.hi)), .n, .n, .n, .n, .n] _ [.inRegion (cops (csub (cd Try.f28) [1,0])) [], .code (csub (cd Try.f28) [1,1])] [(8, .bool (h.hi == 0))] w2 (by kernel_rfl) (.cons o48 .nil) ?_
                refine GoS.run [8] [.n] _ [.code (csub (cd Try.f28) [1,1])] [(8, .bool (h.hi == 0))] w2 (by kernel_rfl) .nil ?_
                refine GoS.ret (fn := Try.f28) (v := (.bool (h.hi == 0))) Try.func28 (by kernel_rfl) ?_
                rw [hR]
                exact ⟨ret_bool (by unfold nothP; first | (simp [h7, h31, h32, h41, h43, h44, h47, h7p, h31p, h32p, h41p, h43p, h44p, h47p]; done) | (simp_all; done) | (simp_all; rw [Bool.eq_iff_iff]; simp; done)), hM49.sub (List.nil_sublist _)⟩
              ·
                have h47p : ¬ (h.lo = 0) := p_ne h47
                have hM50 : Mem [] w w2 [] := hM5.sub (cn (List.Sublist.refl _))
                refine GoS.run [8] [.n, .n, .n, .n, .n, .n, .n] _ [.inRegion (cops (csub (cd Try.f28) [1,0])) [], .code (csub (cd Try.f28) [1,1])] [(8, .bool false)] w2 (by kernel_rfl) .nil ?_
                refine GoS.run [8] [.n] _ [.code (csub (cd Try.f28) [1,1])] [(8, .bool false)] w2 (by kernel_rfl) .nil ?_
                refine GoS.ret (fn := Try.f28) (v := (.bool false)) Try.func28 (by kernel_rfl) ?_
                rw [hR]
                exact ⟨ret_bool (by unfold nothP; first | (simp [h7, h31, h32, h41, h43, h44, h47, h7p, h31p, h32p, h41p, h43p, h44p, h47p]; done) | (simp_all; done) | (simp_all; rw [Bool.eq_iff_iff]; simp; done)), hM50.sub (List.nil_sublist _)⟩
          ·
            have h43p : ¬ (h.exact = 0) := p_ne h43
            have hM51 : Mem [] w w2 [] := hM5.sub (cn (List.Sublist.refl _))
            refine GoS.run [8] [.n, .n, .n, .n, .n, .n, .n, .n, .n, .n, .n, .n, .n] _ [.inRegion (cops (csub (cd Try.f28) [1,0])) [], .code (csub (cd Try.f28) [1,1])] [(8, .bool false)] w2 (by kernel_rfl) .nil ?_
            refine GoS.run [8] [.n] _ [.code (csub (cd Try.f28) [1,1])] [(8, .bool false)] w2 (by kernel_rfl) .nil ?_
            refine GoS.ret (fn := Try.f28) (v := (.bool false)) Try.func28 (by kernel_rfl) ?_
            rw [hR]
            exact ⟨ret_bool (by unfold nothP; first | (simp [h7, h31, h32, h41, h43, h7p, h31p, h32p, h41p, h43p]; done) | (simp_all; done) | (simp_all; rw [Bool.eq_iff_iff]; simp; done)), hM51.sub (List.nil_sublist _)⟩
        ·
          have h41p : ¬ (h.edits = 0) := p_ne h41
          have hM52 : Mem [] w w2 [] := hM5.sub (cn (List.Sublist.refl _))
          refine GoS.run [8] [.n, .n, .n, .n, .n, .n, .n, .n, .n, .n, .n, .n, .n, .n, .n, .n, .n, .n, .n, .n] _ [.inRegion (cops (csub (cd Try.f28) [1,0])) [], .code (csub (cd Try.f28) [1,1])] [(8, .bool false)] w2 (by kernel_rfl) .nil ?_
          refine GoS.run [8] [.n] _ [.code (csub (cd Try.f28) [1,1])] [(8, .bool false)] w2 (by kernel_rfl) .nil ?_
          refine GoS.ret (fn := Try.f28) (v := (.bool false)) Try.func28 (by kernel_rfl) ?_
          rw [hR]
          exact ⟨ret_bool (by unfold nothP; first | (simp [h7, h31, h32, h41, h7p, h31p, h32p, h41p]; done) | (simp_all; done) | (simp_all; rw [Bool.eq_iff_iff]; simp; done)), hM52.sub (List.nil_sublist _)⟩
    ·
      have h31p : ¬ (h.text = []) := of_decide_eq_false h31
      have hM53 : Mem [] w w2 [] := hM5.sub (cn (List.Sublist.refl _))
      refine GoS.run [8] [.n, .n, .n, .n, .n, .n, .n, .n, .n, .n, .n, .n, .n, .n, .n, .n, .n, .n, .n, .n, .n, .n, .n, .n, .n, .n] _ [.inRegion (cops (csub (cd Try.f28) [1,0])) [], .code (csub (cd Try.f28) [1,1])] [(8, .bool false)] w2 (by kernel_rfl) .nil ?_
      refine GoS.run [8] [.n] _ [.code (csub (cd Try.f28) [1,1])] [(8, .bool false)] w2 (by kernel_rfl) .nil ?_
      refine GoS.ret (fn := Try.f28) (v := (.bool false)) Try.func28 (by kernel_rfl) ?_
      rw [hR]
      exact ⟨ret_bool (by unfold nothP; first | (simp [h7, h31, h7p, h31p]; done) | (simp_all; done) | (simp_all; rw [Bool.eq_iff_iff]; simp; done)), hM53.sub (List.nil_sublist _)⟩


end Go.Proofs.Ytnhplkkbpmijdaa
