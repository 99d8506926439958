/-
  The walk of one.
-/
import Derived.Test.YtnhplkkbpmijdaaQryG
namespace Go.Proofs.Ytnhplkkbpmijdaa
open Go Go.Gw Go.UtfP Go.TokP Go.QryP Go.RowKit
set_option linter.unusedVariables false
set_option linter.unusedSimpArgs false


set_option maxHeartbeats 4000000 in
theorem rone_c {w : World} (q : Q) (h : Hd) (he : h = q.h) (v : Value) (hq : RdQ w q v) (hb : bulkQ q ≤ 1048576) :
    Calls Try.prog 24 #[(qA h v)] w (fun e w' => e = .returned (.bool (nodeP h q.l.length)) ∧ Mem [] w w' []) := by
  obtain ⟨L, hr, hl, hh, hs⟩ := hq.inv
  have hbl : bulkL q.l + q.h.field.length + q.h.text.length + 1 = bulkQ q := by cases q; rw [bulkQ_mk]; rfl
  have hln := bulk_len q.l
  obtain ⟨R, hR⟩ : ∃ R : Ending → World → Prop, R = (fun e w' => e = .returned (.bool (nodeP h q.l.length)) ∧ Mem [] w w' []) := ⟨_, rfl⟩
  rw [← hR]
  refine GoS.enter (n := 163) Try.func24 (by kernel_rfl) rfl [(0, (qA h v))] (by kernel_rfl) (by kernel_rfl) ?_
  have hM0 := Mem.start w
  obtain ⟨b1, w2, hr3, hM4⟩ := m_box (T := 25) (k := 8) (u := (qA h v)) rfl rfl hM0
  have hM5 : Mem [] w w2 [⟨25, 8, (obj b1), 1, (qR h v)⟩] := hM4
  have o6 : (Instr.box 25 ((qA h v))).run Try.prog w = .ok (pq b1) w2 := hr3
  have o7 : (Instr.loadAt 23 (.pointer (some (⟨b1, 7, none⟩)))).run Try.prog w2 = .ok (v) w2 := c_load pE23 (hM5.rd 0 rfl) (cel_obj b1 7) rfl
  have o8 : (Builtin.len_ #[23] 3 #[v]).run Try.prog w2 = .ok (.int .i64 (((List.length L) : Nat) : Int)) w2 := f_slen sT23 (hr.kept0 hM5.kept) 3 _
  have o9 : (Instr.loadAt 3 (pq b1)).run Try.prog w2 = .ok (.int .i64 (h.op)) w2 := c_load pE3 (hM5.rd 0 rfl) (cel_obj b1 0) rfl
  refine GoS.run [1, 3, 15] [.n, .n, .u (pq b1) (w2), .n, .n, .n, .n, .n, .h (v), .h (.int .i64 (((List.length L) : Nat) : Int)), .n, .n, .n, .n, .n, .n, .h (.int .i64 (h.op)), .n, .n] _ [.inRegion (cops (csub (cd Try.f24) [1,1,0,0])) [4,5,6,7], .code (csub (cd Try.f24) [1,1,0,1]), .code (csub (cd Try.f24) [1,1,1])] [(1, pq b1), (3, .int .i64 (((List.length L) : Nat) : Int)), (15, .bool (h.op == 8))] w2 (by kernel_rfl) (.cons o6 (.cons o7 (.cons o8 (.cons o9 .nil)))) ?_
  refine GoS.fork 15 (h.op == 8) (by kernel_rfl) (fun h10 => ?_) (fun h10 => ?_)
  ·
    have h10p : h.op = 8 := eq_of_beq h10
    refine GoS.run [1, 3, 19] [.n, .n, .n, .n] _ [.inRegion (cops (csub (cd Try.f24) [1,1,0,0])) [], .code (csub (cd Try.f24) [1,1,0,1]), .code (csub (cd Try.f24) [1,1,1])] [(1, pq b1), (3, .int .i64 (((List.length L) : Nat) : Int)), (19, .bool true)] w2 (by kernel_rfl) .nil ?_
    refine GoS.run [1, 22] [.n, .n, .n, .n, .n, .n, .n] _ [.inRegion (cops (csub (cd Try.f24) [1,1,0,1,0,0])) [3,4,5,6,7,8,9,10,11], .code (csub (cd Try.f24) [1,1,0,1,0,1]), .code (csub (cd Try.f24) [1,1,1])] [(1, pq b1), (22, .bool (decide ((((List.length L) : Nat) : Int) ≥ 2)))] w2 (by kernel_rfl) .nil ?_
    refine GoS.fork 22 (decide ((((List.length L) : Nat) : Int) ≥ 2)) (by kernel_rfl) (fun h12 => ?_) (fun h12 => ?_)
    ·
      have h12p : (((List.length L) : Nat) : Int) ≥ 2 := of_decide_eq_true h12
      have o13 : (Instr.loadAt 9 (.pointer (some (⟨b1, 1, none⟩)))).run Try.prog w2 = .ok (.string (sb (h.field))) w2 := c_load pE9 (hM5.rd 0 rfl) (cel_obj b1 1) rfl
      have o14 : (binOp .eql 9 (.string (sb (h.field))) (.string (sb ([])))).run Try.prog w2 = .ok (.bool (decide (h.field = []))) w2 := f_streq
      refine GoS.run [1, 27] [.n, .h (.string (sb (h.field))), .h (.bool (decide (h.field = []))), .n, .n] _ [.inRegion (cops (csub (cd Try.f24) [1,1,0,1,0,0])) [8,9,10,11], .code (csub (cd Try.f24) [1,1,0,1,0,1]), .code (csub (cd Try.f24) [1,1,1])] [(1, pq b1), (27, .bool (decide (h.field = [])))] w2 (by kernel_rfl) (.cons o13 (.cons o14 .nil)) ?_
      refine GoS.fork 27 (decide (h.field = [])) (by kernel_rfl) (fun h15 => ?_) (fun h15 => ?_)
      ·
        have h15p : h.field = [] := of_decide_eq_true h15
        have o16 : (Instr.loadAt 25 (pq b1)).run Try.prog w2 = .ok ((qA h v)) w2 := c_loads (ys := (qR h v)) aE25 (hM5.rd 0 rfl) (cel_obj b1 0) rfl (by intro j u hj; match j, hj with | 0, hj => exact hj | 1, hj => exact hj | 2, hj => exact hj | 3, hj => exact hj | 4, hj => exact hj | 5, hj => exact hj | 6, hj => exact hj | 7, hj => exact hj | n + 8, hj => cases hj)
        have hM17 : Mem [] w w2 [] := hM5.sub (cn (List.Sublist.refl _))
        refine GoS.run [27, 28] [.h ((qA h v))] _ [.inRegion (cops (csub (cd Try.f24) [1,1,0,1,0,0])) [9,10,11], .code (csub (cd Try.f24) [1,1,0,1,0,1]), .code (csub (cd Try.f24) [1,1,1])] [(27, .bool true), (28, (qA h v))] w2 (by kernel_rfl) (.cons o16 .nil) ?_
        refine GoS.call [27] 28 #[(qA h v), .bool false, .bool false, .bool false] (some 29) [.inRegion (cops (csub (cd Try.f24) [1,1,0,1,0,0])) [10,11], .code (csub (cd Try.f24) [1,1,0,1,0,1]), .code (csub (cd Try.f24) [1,1,1])] [(27, .bool true)] (by kernel_rfl) (noth_c (w := w2) h v false false false) ?_
        rintro _ w18 ⟨rfl, m19⟩
        refine ⟨_, rfl, ?_⟩
        have hM20 : Mem [] w w18 [] := Mem.join (R := []) hM17 m19
        refine GoS.run [2] [.n, .n] _ [.inRegion (cops (csub (cd Try.f24) [1,1,0,1,0,0])) [], .code (csub (cd Try.f24) [1,1,0,1,0,1]), .code (csub (cd Try.f24) [1,1,1])] [(2, .bool (nothP h false false false))] w18 (by kernel_rfl) .nil ?_
        refine GoS.run [2] [.n] _ [.code (csub (cd Try.f24) [1,1,0,1,0,1]), .code (csub (cd Try.f24) [1,1,1])] [(2, .bool (nothP h false false false))] w18 (by kernel_rfl) .nil ?_
        refine GoS.ret (fn := Try.f24) (v := (.bool (nothP h false false false))) Try.func24 (by kernel_rfl) ?_
        rw [hR]
        exact ⟨ret_bool (by rw [node_join (by omega), (show decide (2 ≤ q.l.length) = true from decide_eq_true (by omega)), (show decide (h.field = []) = true from decide_eq_true h15p)]; rfl), hM20.sub (List.nil_sublist _)⟩
      ·
        have h15p : ¬ (h.field = []) := of_decide_eq_false h15
        have hM21 : Mem [] w w2 [] := hM5.sub (cn (List.Sublist.refl _))
        refine GoS.run [2] [.n, .n, .n, .n] _ [.inRegion (cops (csub (cd Try.f24) [1,1,0,1,0,0])) [], .code (csub (cd Try.f24) [1,1,0,1,0,1]), .code (csub (cd Try.f24) [1,1,1])] [(2, .bool false)] w2 (by kernel_rfl) .nil ?_
        refine GoS.run [2] [.n] _ [.code (csub (cd Try.f24) [1,1,0,1,0,1]), .code (csub (cd Try.f24) [1,1,1])] [(2, .bool false)] w2 (by kernel_rfl) .nil ?_
        refine GoS.ret (fn := Try.f24) (v := (.bool false)) Try.func24 (by kernel_rfl) ?_
        rw [hR]
        exact ⟨ret_bool (by rw [node_join (by omega), (show decide (h.field = []) = false from decide_eq_false h15p), Bool.and_false]; rfl), hM21.sub (List.nil_sublist _)⟩
    ·
      have h12p : ¬ ((((List.length L) : Nat) : Int) ≥ 2) := of_decide_eq_false h12
      have hM22 : Mem [] w w2 [] := hM5.sub (cn (List.Sublist.refl _))
      refine GoS.run [2] [.n, .n, .n, .n, .n, .n, .n, .n, .n] _ [.inRegion (cops (csub (cd Try.f24) [1,1,0,1,0,0])) [], .code (csub (cd Try.f24) [1,1,0,1,0,1]), .code (csub (cd Try.f24) [1,1,1])] [(2, .bool false)] w2 (by kernel_rfl) .nil ?_
      refine GoS.run [2] [.n] _ [.code (csub (cd Try.f24) [1,1,0,1,0,1]), .code (csub (cd Try.f24) [1,1,1])] [(2, .bool false)] w2 (by kernel_rfl) .nil ?_
      refine GoS.ret (fn := Try.f24) (v := (.bool false)) Try.func24 (by kernel_rfl) ?_
      rw [hR]
      exact ⟨ret_bool (by rw [node_join (by omega), (show decide (2 ≤ q.l.length) = false from decide_eq_false (by omega))]; rfl), hM22.sub (List.nil_sublist _)⟩
  ·
    have h10p : ¬ (h.op = 8) := p_ne h10
    have o11 : (Instr.loadAt 3 (pq b1)).run Try.prog w2 = .ok (.int .i64 (h.op)) w2 := c_load pE3 (hM5.rd 0 rfl) (cel_obj b1 0) rfl
    refine GoS.run [1, 3, 19] [.n, .h (.int .i64 (h.op)), .n, .n] _ [.inRegion (cops (csub (cd Try.f24) [1,1,0,0])) [], .code (csub (cd Try.f24) [1,1,0,1]), .code (csub (cd Try.f24) [1,1,1])] [(1, pq b1), (3, .int .i64 (((List.length L) : Nat) : Int)), (19, .bool (h.op == 7))] w2 (by kernel_rfl) (.cons o11 .nil) ?_
    refine GoS.run [1, 3, 19] [.n] _ [.code (csub (cd Try.f24) [1,1,0,1]), .code (csub (cd Try.f24) [1,1,1])] [(1, pq b1), (3, .int .i64 (((List.length L) : Nat) : Int)), (19, .bool (h.op == 7))] w2 (by kernel_rfl) .nil ?_
    refine GoS.cond (h.op == 7) [.code (csub (cd Try.f24) [1,1,0,1,0]), .code (csub (cd Try.f24) [1,1,1])] [.code (csub (cd Try.f24) [1,1,0,1,1]), .code (csub (cd Try.f24) [1,1,1])] (by kernel_rfl) (fun h23 => ?_) (fun h23 => ?_)
    ·
      have h23p : h.op = 7 := eq_of_beq h23
      refine GoS.run [1, 22] [.n, .n, .n, .n, .n] _ [.inRegion (cops (csub (cd Try.f24) [1,1,0,1,0,0])) [3,4,5,6,7,8,9,10,11], .code (csub (cd Try.f24) [1,1,0,1,0,1]), .code (csub (cd Try.f24) [1,1,1])] [(1, pq b1), (22, .bool (decide ((((List.length L) : Nat) : Int) ≥ 2)))] w2 (by kernel_rfl) .nil ?_
      refine GoS.fork 22 (decide ((((List.length L) : Nat) : Int) ≥ 2)) (by kernel_rfl) (fun h24 => ?_) (fun h24 => ?_)
      ·
        have h24p : (((List.length L) : Nat) : Int) ≥ 2 := of_decide_eq_true h24
        have o25 : (Instr.loadAt 9 (.pointer (some (⟨b1, 1, none⟩)))).run Try.prog w2 = .ok (.string (sb (h.field))) w2 := c_load pE9 (hM5.rd 0 rfl) (cel_obj b1 1) rfl
        have o26 : (binOp .eql 9 (.string (sb (h.field))) (.string (sb ([])))).run Try.prog w2 = .ok (.bool (decide (h.field = []))) w2 := f_streq
        refine GoS.run [1, 27] [.n, .h (.string (sb (h.field))), .h (.bool (decide (h.field = []))), .n, .n] _ [.inRegion (cops (csub (cd Try.f24) [1,1,0,1,0,0])) [8,9,10,11], .code (csub (cd Try.f24) [1,1,0,1,0,1]), .code (csub (cd Try.f24) [1,1,1])] [(1, pq b1), (27, .bool (decide (h.field = [])))] w2 (by kernel_rfl) (.cons o25 (.cons o26 .nil)) ?_
        refine GoS.fork 27 (decide (h.field = [])) (by kernel_rfl) (fun h27 => ?_) (fun h27 => ?_)
        ·
          have h27p : h.field = [] := of_decide_eq_true h27
          have o28 : (Instr.loadAt 25 (pq b1)).run Try.prog w2 = .ok ((qA h v)) w2 := c_loads (ys := (qR h v)) aE25 (hM5.rd 0 rfl) (cel_obj b1 0) rfl (by intro j u hj; match j, hj with | 0, hj => exact hj | 1, hj => exact hj | 2, hj => exact hj | 3, hj => exact hj | 4, hj => exact hj | 5, hj => exact hj | 6, hj => exact hj | 7, hj => exact hj | n + 8, hj => cases hj)
          have hM29 : Mem [] w w2 [] := hM5.sub (cn (List.Sublist.refl _))
          refine GoS.run [27, 28] [.h ((qA h v))] _ [.inRegion (cops (csub (cd Try.f24) [1,1,0,1,0,0])) [9,10,11], .code (csub (cd Try.f24) [1,1,0,1,0,1]), .code (csub (cd Try.f24) [1,1,1])] [(27, .bool true), (28, (qA h v))] w2 (by kernel_rfl) (.cons o28 .nil) ?_
          refine GoS.call [27] 28 #[(qA h v), .bool false, .bool false, .bool false] (some 29) [.inRegion (cops (csub (cd Try.f24) [1,1,0,1,0,0])) [10,11], .code (csub (cd Try.f24) [1,1,0,1,0,1]), .code (csub (cd Try.f24) [1,1,1])] [(27, .bool true)] (by kernel_rfl) (noth_c (w := w2) h v false false false) ?_
          rintro _ w30 ⟨rfl, m31⟩
          refine ⟨_, rfl, ?_⟩
          have hM32 : Mem [] w w30 [] := Mem.join (R := []) hM29 m31
          refine GoS.run [2] [.n, .n] _ [.inRegion (cops (csub (cd Try.f24) [1,1,0,1,0,0])) [], .code (csub (cd Try.f24) [1,1,0,1,0,1]), .code (csub (cd Try.f24) [1,1,1])] [(2, .bool (nothP h false false false))] w30 (by kernel_rfl) .nil ?_
          refine GoS.run [2] [.n] _ [.code (csub (cd Try.f24) [1,1,0,1,0,1]), .code (csub (cd Try.f24) [1,1,1])] [(2, .bool (nothP h false false false))] w30 (by kernel_rfl) .nil ?_
          refine GoS.ret (fn := Try.f24) (v := (.bool (nothP h false false false))) Try.func24 (by kernel_rfl) ?_
          rw [hR]
          exact ⟨ret_bool (by rw [node_join (by omega), (show decide (2 ≤ q.l.length) = true from decide_eq_true (by omega)), (show decide (h.field = []) = true from decide_eq_true h27p)]; rfl), hM32.sub (List.nil_sublist _)⟩
        ·
          have h27p : ¬ (h.field = []) := of_decide_eq_false h27
          have hM33 : Mem [] w w2 [] := hM5.sub (cn (List.Sublist.refl _))
          refine GoS.run [2] [.n, .n, .n, .n] _ [.inRegion (cops (csub (cd Try.f24) [1,1,0,1,0,0])) [], .code (csub (cd Try.f24) [1,1,0,1,0,1]), .code (csub (cd Try.f24) [1,1,1])] [(2, .bool false)] w2 (by kernel_rfl) .nil ?_
          refine GoS.run [2] [.n] _ [.code (csub (cd Try.f24) [1,1,0,1,0,1]), .code (csub (cd Try.f24) [1,1,1])] [(2, .bool false)] w2 (by kernel_rfl) .nil ?_
          refine GoS.ret (fn := Try.f24) (v := (.bool false)) Try.func24 (by kernel_rfl) ?_
          rw [hR]
          exact ⟨ret_bool (by rw [node_join (by omega), (show decide (h.field = []) = false from decide_eq_false h27p), Bool.and_false]; rfl), hM33.sub (List.nil_sublist _)⟩
      ·
        have h24p : ¬ ((((List.length L) : Nat) : Int) ≥ 2) := of_decide_eq_false h24
        have hM34 : Mem [] w w2 [] := hM5.sub (cn (List.Sublist.refl _))
        refine GoS.run [2] [.n, .n, .n, .n, .n, .n, .n, .n, .n] _ [.inRegion (cops (csub (cd Try.f24) [1,1,0,1,0,0])) [], .code (csub (cd Try.f24) [1,1,0,1,0,1]), .code (csub (cd Try.f24) [1,1,1])] [(2, .bool false)] w2 (by kernel_rfl) .nil ?_
        refine GoS.run [2] [.n] _ [.code (csub (cd Try.f24) [1,1,0,1,0,1]), .code (csub (cd Try.f24) [1,1,1])] [(2, .bool false)] w2 (by kernel_rfl) .nil ?_
        refine GoS.ret (fn := Try.f24) (v := (.bool false)) Try.func24 (by kernel_rfl) ?_
        rw [hR]
        exact ⟨ret_bool (by rw [node_join (by omega), (show decide (2 ≤ q.l.length) = false from decide_eq_false (by omega))]; rfl), hM34.sub (List.nil_sublist _)⟩
    ·
      have h23p : ¬ (h.op = 7) := p_ne h23
      refine GoS.run [1, 3] [.n] _ [.code (csub (cd Try.f24) [1,1,1])] [(1, pq b1), (3, .int .i64 (((List.length L) : Nat) : Int))] w2 (by kernel_rfl) .nil ?_
      have o35 : (Instr.loadAt 3 (pq b1)).run Try.prog w2 = .ok (.int .i64 (h.op)) w2 := c_load pE3 (hM5.rd 0 rfl) (cel_obj b1 0) rfl
      refine GoS.run [1, 3, 33] [.n, .n, .n, .n, .h (.int .i64 (h.op)), .n, .n] _ [.code (csub (cd Try.f24) [1,1,1,0,1]), .code (csub (cd Try.f24) [1,1,1,1])] [(1, pq b1), (3, .int .i64 (((List.length L) : Nat) : Int)), (33, .bool (h.op == 9))] w2 (by kernel_rfl) (.cons o35 .nil) ?_
      refine GoS.cond (h.op == 9) [.code (csub (cd Try.f24) [1,1,1,0,1,0]), .code (csub (cd Try.f24) [1,1,1,1])] [.code (csub (cd Try.f24) [1,1,1,0,1,1]), .code (csub (cd Try.f24) [1,1,1,1])] (by kernel_rfl) (fun h36 => ?_) (fun h36 => ?_)
      ·
        have h36p : h.op = 9 := eq_of_beq h36
        refine GoS.run [1, 36] [.n, .n, .n, .n, .n] _ [.inRegion (cops (csub (cd Try.f24) [1,1,1,0,1,0,0])) [3,4,5,6,7,8,9,10,11], .code (csub (cd Try.f24) [1,1,1,0,1,0,1]), .code (csub (cd Try.f24) [1,1,1,1])] [(1, pq b1), (36, .bool ((((List.length L) : Nat) : Int) == 1))] w2 (by kernel_rfl) .nil ?_
        refine GoS.fork 36 ((((List.length L) : Nat) : Int) == 1) (by kernel_rfl) (fun h37 => ?_) (fun h37 => ?_)
        ·
          have h37p : (((List.length L) : Nat) : Int) = 1 := eq_of_beq h37
          have o38 : (Instr.loadAt 9 (.pointer (some (⟨b1, 1, none⟩)))).run Try.prog w2 = .ok (.string (sb (h.field))) w2 := c_load pE9 (hM5.rd 0 rfl) (cel_obj b1 1) rfl
          have o39 : (binOp .eql 9 (.string (sb (h.field))) (.string (sb ([])))).run Try.prog w2 = .ok (.bool (decide (h.field = []))) w2 := f_streq
          refine GoS.run [1, 41] [.n, .h (.string (sb (h.field))), .h (.bool (decide (h.field = []))), .n, .n] _ [.inRegion (cops (csub (cd Try.f24) [1,1,1,0,1,0,0])) [8,9,10,11], .code (csub (cd Try.f24) [1,1,1,0,1,0,1]), .code (csub (cd Try.f24) [1,1,1,1])] [(1, pq b1), (41, .bool (decide (h.field = [])))] w2 (by kernel_rfl) (.cons o38 (.cons o39 .nil)) ?_
          refine GoS.fork 41 (decide (h.field = [])) (by kernel_rfl) (fun h40 => ?_) (fun h40 => ?_)
          ·
            have h40p : h.field = [] := of_decide_eq_true h40
            have o41 : (Instr.loadAt 25 (pq b1)).run Try.prog w2 = .ok ((qA h v)) w2 := c_loads (ys := (qR h v)) aE25 (hM5.rd 0 rfl) (cel_obj b1 0) rfl (by intro j u hj; match j, hj with | 0, hj => exact hj | 1, hj => exact hj | 2, hj => exact hj | 3, hj => exact hj | 4, hj => exact hj | 5, hj => exact hj | 6, hj => exact hj | 7, hj => exact hj | n + 8, hj => cases hj)
            have hM42 : Mem [] w w2 [] := hM5.sub (cn (List.Sublist.refl _))
            refine GoS.run [41, 42] [.h ((qA h v))] _ [.inRegion (cops (csub (cd Try.f24) [1,1,1,0,1,0,0])) [9,10,11], .code (csub (cd Try.f24) [1,1,1,0,1,0,1]), .code (csub (cd Try.f24) [1,1,1,1])] [(41, .bool true), (42, (qA h v))] w2 (by kernel_rfl) (.cons o41 .nil) ?_
            refine GoS.call [41] 28 #[(qA h v), .bool false, .bool false, .bool false] (some 43) [.inRegion (cops (csub (cd Try.f24) [1,1,1,0,1,0,0])) [10,11], .code (csub (cd Try.f24) [1,1,1,0,1,0,1]), .code (csub (cd Try.f24) [1,1,1,1])] [(41, .bool true)] (by kernel_rfl) (noth_c (w := w2) h v false false false) ?_
            rintro _ w43 ⟨rfl, m44⟩
            refine ⟨_, rfl, ?_⟩
            have hM45 : Mem [] w w43 [] := Mem.join (R := []) hM42 m44
            refine GoS.run [2] [.n, .n] _ [.inRegion (cops (csub (cd Try.f24) [1,1,1,0,1,0,0])) [], .code (csub (cd Try.f24) [1,1,1,0,1,0,1]), .code (csub (cd Try.f24) [1,1,1,1])] [(2, .bool (nothP h false false false))] w43 (by kernel_rfl) .nil ?_
            refine GoS.run [2] [.n] _ [.code (csub (cd Try.f24) [1,1,1,0,1,0,1]), .code (csub (cd Try.f24) [1,1,1,1])] [(2, .bool (nothP h false false false))] w43 (by kernel_rfl) .nil ?_
            refine GoS.ret (fn := Try.f24) (v := (.bool (nothP h false false false))) Try.func24 (by kernel_rfl) ?_
            rw [hR]
            exact ⟨ret_bool (by rw [node_not (by omega), (show decide (q.l.length = 1) = true from decide_eq_true (by omega)), (show decide (h.field = []) = true from decide_eq_true h40p)]; rfl), hM45.sub (List.nil_sublist _)⟩
          ·
            have h40p : ¬ (h.field = []) := of_decide_eq_false h40
            have hM46 : Mem [] w w2 [] := hM5.sub (cn (List.Sublist.refl _))
            refine GoS.run [2] [.n, .n, .n, .n] _ [.inRegion (cops (csub (cd Try.f24) [1,1,1,0,1,0,0])) [], .code (csub (cd Try.f24) [1,1,1,0,1,0,1]), .code (csub (cd Try.f24) [1,1,1,1])] [(2, .bool false)] w2 (by kernel_rfl) .nil ?_
            refine GoS.run [2] [.n] _ [.code (csub (cd Try.f24) [1,1,1,0,1,0,1]), .code (csub (cd Try.f24) [1,1,1,1])] [(2, .bool false)] w2 (by kernel_rfl) .nil ?_
            refine GoS.ret (fn := Try.f24) (v := (.bool false)) Try.func24 (by kernel_rfl) ?_
            rw [hR]
            exact ⟨ret_bool (by rw [node_not (by omega), (show decide (h.field = []) = false from decide_eq_false h40p), Bool.and_false]; rfl), hM46.sub (List.nil_sublist _)⟩
        ·
          have h37p : ¬ ((((List.length L) : Nat) : Int) = 1) := p_ne h37
          have hM47 : Mem [] w w2 [] := hM5.sub (cn (List.Sublist.refl _))
          refine GoS.run [2] [.n, .n, .n, .n, .n, .n, .n, .n, .n] _ [.inRegion (cops (csub (cd Try.f24) [1,1,1,0,1,0,0])) [], .code (csub (cd Try.f24) [1,1,1,0,1,0,1]), .code (csub (cd Try.f24) [1,1,1,1])] [(2, .bool false)] w2 (by kernel_rfl) .nil ?_
          refine GoS.run [2] [.n] _ [.code (csub (cd Try.f24) [1,1,1,0,1,0,1]), .code (csub (cd Try.f24) [1,1,1,1])] [(2, .bool false)] w2 (by kernel_rfl) .nil ?_
          refine GoS.ret (fn := Try.f24) (v := (.bool false)) Try.func24 (by kernel_rfl) ?_
          rw [hR]
          exact ⟨ret_bool (by rw [node_not (by omega), (show decide (q.l.length = 1) = false from decide_eq_false (by omega))]; rfl), hM47.sub (List.nil_sublist _)⟩
      ·
        have h36p : ¬ (h.op = 9) := p_ne h36
        refine GoS.run [1, 3] [.n] _ [.code (csub (cd Try.f24) [1,1,1,1])] [(1, pq b1), (3, .int .i64 (((List.length L) : Nat) : Int))] w2 (by kernel_rfl) .nil ?_
        have o48 : (Instr.loadAt 3 (pq b1)).run Try.prog w2 = .ok (.int .i64 (h.op)) w2 := c_load pE3 (hM5.rd 0 rfl) (cel_obj b1 0) rfl
        refine GoS.run [1, 3, 47] [.n, .n, .n, .n, .h (.int .i64 (h.op)), .n, .n] _ [.code (csub (cd Try.f24) [1,1,1,1,0,1]), .code (csub (cd Try.f24) [1,1,1,1,1])] [(1, pq b1), (3, .int .i64 (((List.length L) : Nat) : Int)), (47, .bool (h.op == 10))] w2 (by kernel_rfl) (.cons o48 .nil) ?_
        refine GoS.cond (h.op == 10) [.code (csub (cd Try.f24) [1,1,1,1,0,1,0]), .code (csub (cd Try.f24) [1,1,1,1,1])] [.code (csub (cd Try.f24) [1,1,1,1,0,1,1]), .code (csub (cd Try.f24) [1,1,1,1,1])] (by kernel_rfl) (fun h49 => ?_) (fun h49 => ?_)
        ·
          have h49p : h.op = 10 := eq_of_beq h49
          refine GoS.run [1, 50] [.n, .n, .n, .n, .n] _ [.inRegion (cops (csub (cd Try.f24) [1,1,1,1,0,1,0,0])) [3,4,5,6,7,8,9,10,11], .code (csub (cd Try.f24) [1,1,1,1,0,1,0,1]), .code (csub (cd Try.f24) [1,1,1,1,1])] [(1, pq b1), (50, .bool ((((List.length L) : Nat) : Int) == 0))] w2 (by kernel_rfl) .nil ?_
          refine GoS.fork 50 ((((List.length L) : Nat) : Int) == 0) (by kernel_rfl) (fun h50 => ?_) (fun h50 => ?_)
          ·
            have h50p : (((List.length L) : Nat) : Int) = 0 := eq_of_beq h50
            have o51 : (Instr.loadAt 9 (.pointer (some (⟨b1, 1, none⟩)))).run Try.prog w2 = .ok (.string (sb (h.field))) w2 := c_load pE9 (hM5.rd 0 rfl) (cel_obj b1 1) rfl
            have o52 : (binOp .eql 9 (.string (sb (h.field))) (.string (sb ([])))).run Try.prog w2 = .ok (.bool (decide (h.field = []))) w2 := f_streq
            refine GoS.run [1, 55] [.n, .h (.string (sb (h.field))), .h (.bool (decide (h.field = []))), .n, .n] _ [.inRegion (cops (csub (cd Try.f24) [1,1,1,1,0,1,0,0])) [8,9,10,11], .code (csub (cd Try.f24) [1,1,1,1,0,1,0,1]), .code (csub (cd Try.f24) [1,1,1,1,1])] [(1, pq b1), (55, .bool (decide (h.field = [])))] w2 (by kernel_rfl) (.cons o51 (.cons o52 .nil)) ?_
            refine GoS.fork 55 (decide (h.field = [])) (by kernel_rfl) (fun h53 => ?_) (fun h53 => ?_)
            ·
              have h53p : h.field = [] := of_decide_eq_true h53
              have o54 : (Instr.loadAt 25 (pq b1)).run Try.prog w2 = .ok ((qA h v)) w2 := c_loads (ys := (qR h v)) aE25 (hM5.rd 0 rfl) (cel_obj b1 0) rfl (by intro j u hj; match j, hj with | 0, hj => exact hj | 1, hj => exact hj | 2, hj => exact hj | 3, hj => exact hj | 4, hj => exact hj | 5, hj => exact hj | 6, hj => exact hj | 7, hj => exact hj | n + 8, hj => cases hj)
              have hM55 : Mem [] w w2 [] := hM5.sub (cn (List.Sublist.refl _))
              refine GoS.run [55, 56] [.h ((qA h v))] _ [.inRegion (cops (csub (cd Try.f24) [1,1,1,1,0,1,0,0])) [9,10,11], .code (csub (cd Try.f24) [1,1,1,1,0,1,0,1]), .code (csub (cd Try.f24) [1,1,1,1,1])] [(55, .bool true), (56, (qA h v))] w2 (by kernel_rfl) (.cons o54 .nil) ?_
              refine GoS.call [55] 28 #[(qA h v), .bool false, .bool false, .bool false] (some 57) [.inRegion (cops (csub (cd Try.f24) [1,1,1,1,0,1,0,0])) [10,11], .code (csub (cd Try.f24) [1,1,1,1,0,1,0,1]), .code (csub (cd Try.f24) [1,1,1,1,1])] [(55, .bool true)] (by kernel_rfl) (noth_c (w := w2) h v false false false) ?_
              rintro _ w56 ⟨rfl, m57⟩
              refine ⟨_, rfl, ?_⟩
              have hM58 : Mem [] w w56 [] := Mem.join (R := []) hM55 m57
              refine GoS.run [2] [.n, .n] _ [.inRegion (cops (csub (cd Try.f24) [1,1,1,1,0,1,0,0])) [], .code (csub (cd Try.f24) [1,1,1,1,0,1,0,1]), .code (csub (cd Try.f24) [1,1,1,1,1])] [(2, .bool (nothP h false false false))] w56 (by kernel_rfl) .nil ?_
              refine GoS.run [2] [.n] _ [.code (csub (cd Try.f24) [1,1,1,1,0,1,0,1]), .code (csub (cd Try.f24) [1,1,1,1,1])] [(2, .bool (nothP h false false false))] w56 (by kernel_rfl) .nil ?_
              refine GoS.ret (fn := Try.f24) (v := (.bool (nothP h false false false))) Try.func24 (by kernel_rfl) ?_
              rw [hR]
              exact ⟨ret_bool (by rw [node_all (by omega), (show decide (q.l.length = 0) = true from decide_eq_true (by omega)), (show decide (h.field = []) = true from decide_eq_true h53p)]; rfl), hM58.sub (List.nil_sublist _)⟩
            ·
              have h53p : ¬ (h.field = []) := of_decide_eq_false h53
              have hM59 : Mem [] w w2 [] := hM5.sub (cn (List.Sublist.refl _))
              refine GoS.run [2] [.n, .n, .n, .n] _ [.inRegion (cops (csub (cd Try.f24) [1,1,1,1,0,1,0,0])) [], .code (csub (cd Try.f24) [1,1,1,1,0,1,0,1]), .code (csub (cd Try.f24) [1,1,1,1,1])] [(2, .bool false)] w2 (by kernel_rfl) .nil ?_
              refine GoS.run [2] [.n] _ [.code (csub (cd Try.f24) [1,1,1,1,0,1,0,1]), .code (csub (cd Try.f24) [1,1,1,1,1])] [(2, .bool false)] w2 (by kernel_rfl) .nil ?_
              refine GoS.ret (fn := Try.f24) (v := (.bool false)) Try.func24 (by kernel_rfl) ?_
              rw [hR]
              exact ⟨ret_bool (by rw [node_all (by omega), (show decide (h.field = []) = false from decide_eq_false h53p), Bool.and_false]; rfl), hM59.sub (List.nil_sublist _)⟩
          ·
            have h50p : ¬ ((((List.length L) : Nat) : Int) = 0) := p_ne h50
            have hM60 : Mem [] w w2 [] := hM5.sub (cn (List.Sublist.refl _))
            refine GoS.run [2] [.n, .n, .n, .n, .n, .n, .n, .n, .n] _ [.inRegion (cops (csub (cd Try.f24) [1,1,1,1,0,1,0,0])) [], .code (csub (cd Try.f24) [1,1,1,1,0,1,0,1]), .code (csub (cd Try.f24) [1,1,1,1,1])] [(2, .bool false)] w2 (by kernel_rfl) .nil ?_
            refine GoS.run [2] [.n] _ [.code (csub (cd Try.f24) [1,1,1,1,0,1,0,1]), .code (csub (cd Try.f24) [1,1,1,1,1])] [(2, .bool false)] w2 (by kernel_rfl) .nil ?_
            refine GoS.ret (fn := Try.f24) (v := (.bool false)) Try.func24 (by kernel_rfl) ?_
            rw [hR]
            exact ⟨ret_bool (by rw [node_all (by omega), (show decide (q.l.length = 0) = false from decide_eq_false (by omega))]; rfl), hM60.sub (List.nil_sublist _)⟩
        ·
          have h49p : ¬ (h.op = 10) := p_ne h49
          refine GoS.run [1, 3] [.n] _ [.code (csub (cd Try.f24) [1,1,1,1,1])] [(1, pq b1), (3, .int .i64 (((List.length L) : Nat) : Int))] w2 (by kernel_rfl) .nil ?_
          refine GoS.run [1, 61] [.n, .n, .n, .n, .n, .n] _ [.inRegion (cops (csub (cd Try.f24) [1,1,1,1,1,0,0])) [3,4,5,6,7], .code (csub (cd Try.f24) [1,1,1,1,1,0,1]), .code (csub (cd Try.f24) [1,1,1,1,1,1])] [(1, pq b1), (61, .bool (decide ((((List.length L) : Nat) : Int) > 0)))] w2 (by kernel_rfl) .nil ?_
          refine GoS.fork 61 (decide ((((List.length L) : Nat) : Int) > 0)) (by kernel_rfl) (fun h61 => ?_) (fun h61 => ?_)
          ·
            have h61p : (((List.length L) : Nat) : Int) > 0 := of_decide_eq_true h61
            refine GoS.run [1, 66] [.n, .n, .n, .n, .n] _ [.inRegion (cops (csub (cd Try.f24) [1,1,1,1,1,0,0])) [], .code (csub (cd Try.f24) [1,1,1,1,1,0,1]), .code (csub (cd Try.f24) [1,1,1,1,1,1])] [(1, pq b1), (66, .bool true)] w2 (by kernel_rfl) .nil ?_
            have hM63 : Mem [] w w2 [] := hM5.sub (cn (List.Sublist.refl _))
            refine GoS.run [2] [.n, .n, .n, .n, .n, .n] _ [.code (csub (cd Try.f24) [1,1,1,1,1,0,1,0,1]), .code (csub (cd Try.f24) [1,1,1,1,1,1])] [(2, .bool false)] w2 (by kernel_rfl) .nil ?_
            refine GoS.ret (fn := Try.f24) (v := (.bool false)) Try.func24 (by kernel_rfl) ?_
            rw [hR]
            exact ⟨ret_bool (node_out (by omega) (.inl (by omega))).symm, hM63.sub (List.nil_sublist _)⟩
          ·
            have h61p : ¬ ((((List.length L) : Nat) : Int) > 0) := of_decide_eq_false h61
            have o62 : (Instr.loadAt 9 (.pointer (some (⟨b1, 1, none⟩)))).run Try.prog w2 = .ok (.string (sb (h.field))) w2 := c_load pE9 (hM5.rd 0 rfl) (cel_obj b1 1) rfl
            refine GoS.run [1, 61, 63] [.n, .h (.string (sb (h.field)))] _ [.inRegion (cops (csub (cd Try.f24) [1,1,1,1,1,0,0])) [5,6,7], .code (csub (cd Try.f24) [1,1,1,1,1,0,1]), .code (csub (cd Try.f24) [1,1,1,1,1,1])] [(1, pq b1), (61, .bool false), (63, .string (sb (h.field)))] w2 (by kernel_rfl) (.cons o62 .nil) ?_
            refine GoS.call [1, 61] 29 #[.string (sb (h.field))] (some 64) [.inRegion (cops (csub (cd Try.f24) [1,1,1,1,1,0,0])) [6,7], .code (csub (cd Try.f24) [1,1,1,1,1,0,1]), .code (csub (cd Try.f24) [1,1,1,1,1,1])] [(1, pq b1), (61, .bool false)] (by kernel_rfl) (rname_c (h.field) (by rw [he]; omega) w2) ?_
            rintro _ _ ⟨rfl, rfl⟩
            refine ⟨_, rfl, ?_⟩
            refine GoS.run [1, 66] [.n, .n] _ [.inRegion (cops (csub (cd Try.f24) [1,1,1,1,1,0,0])) [], .code (csub (cd Try.f24) [1,1,1,1,1,0,1]), .code (csub (cd Try.f24) [1,1,1,1,1,1])] [(1, pq b1), (66, .bool (!(nameP (h.field))))] w2 (by kernel_rfl) .nil ?_
            refine GoS.run [1, 66] [.n] _ [.code (csub (cd Try.f24) [1,1,1,1,1,0,1]), .code (csub (cd Try.f24) [1,1,1,1,1,1])] [(1, pq b1), (66, .bool (!(nameP (h.field))))] w2 (by kernel_rfl) .nil ?_
            refine GoS.cond (!(nameP (h.field))) [.code (csub (cd Try.f24) [1,1,1,1,1,0,1,0]), .code (csub (cd Try.f24) [1,1,1,1,1,1])] [.code (csub (cd Try.f24) [1,1,1,1,1,0,1,1]), .code (csub (cd Try.f24) [1,1,1,1,1,1])] (by kernel_rfl) (fun h64 => ?_) (fun h64 => ?_)
            ·
              have hM65 : Mem [] w w2 [] := hM5.sub (cn (List.Sublist.refl _))
              refine GoS.run [2] [.n, .n, .n, .n] _ [.code (csub (cd Try.f24) [1,1,1,1,1,0,1,0,1]), .code (csub (cd Try.f24) [1,1,1,1,1,1])] [(2, .bool false)] w2 (by kernel_rfl) .nil ?_
              refine GoS.ret (fn := Try.f24) (v := (.bool false)) Try.func24 (by kernel_rfl) ?_
              rw [hR]
              exact ⟨ret_bool (node_out (by omega) (.inr (by have z := h64; simpa using z))).symm, hM65.sub (List.nil_sublist _)⟩
            ·
              refine GoS.run [1] [.n] _ [.code (csub (cd Try.f24) [1,1,1,1,1,1])] [(1, pq b1)] w2 (by kernel_rfl) .nil ?_
              have o66 : (Instr.loadAt 3 (pq b1)).run Try.prog w2 = .ok (.int .i64 (h.op)) w2 := c_load pE3 (hM5.rd 0 rfl) (cel_obj b1 0) rfl
              refine GoS.run [1, 68, 69] [.n, .n, .n, .n, .h (.int .i64 (h.op)), .n, .n, .n, .n, .n, .n, .n] _ [.code (csub (cd Try.f24) [1,1,1,1,1,1,0,1,0,1]), .inBlock 0, .code (csub (cd Try.f24) [1,1,1,1,1,1,1])] [(1, pq b1), (68, .int .i64 (h.op)), (69, .bool (h.op == 1))] w2 (by kernel_rfl) (.cons o66 .nil) ?_
              refine GoS.cond (h.op == 1) [.code (csub (cd Try.f24) [1,1,1,1,1,1,0,1,0,1,0]), .inBlock 0, .code (csub (cd Try.f24) [1,1,1,1,1,1,1])] [.code (csub (cd Try.f24) [1,1,1,1,1,1,0,1,0,1,1]), .inBlock 0, .code (csub (cd Try.f24) [1,1,1,1,1,1,1])] (by kernel_rfl) (fun h67 => ?_) (fun h67 => ?_)
              ·
                have h67p : h.op = 1 := eq_of_beq h67
                have o68 : (Instr.loadAt 9 (.pointer (some (⟨b1, 2, none⟩)))).run Try.prog w2 = .ok (.string (sb (h.text))) w2 := c_load pE9 (hM5.rd 0 rfl) (cel_obj b1 2) rfl
                refine GoS.run [1, 73] [.n, .n, .n, .h (.string (sb (h.text)))] _ [.inRegion (cops (csub (cd Try.f24) [1,1,1,1,1,1,0,1,0,1,0,0])) [2,3,4,5,6,7], .code (csub (cd Try.f24) [1,1,1,1,1,1,0,1,0,1,0,1]), .inBlock 0, .code (csub (cd Try.f24) [1,1,1,1,1,1,1])] [(1, pq b1), (73, .string (sb (h.text)))] w2 (by kernel_rfl) (.cons o68 .nil) ?_
                refine GoS.call [1] 30 #[.string (sb (h.text))] (some 74) [.inRegion (cops (csub (cd Try.f24) [1,1,1,1,1,1,0,1,0,1,0,0])) [3,4,5,6,7], .code (csub (cd Try.f24) [1,1,1,1,1,1,0,1,0,1,0,1]), .inBlock 0, .code (csub (cd Try.f24) [1,1,1,1,1,1,1])] [(1, pq b1)] (by kernel_rfl) (rterm_c (h.text) w2) ?_
                rintro _ w69 ⟨rfl, m70⟩
                refine ⟨_, rfl, ?_⟩
                have hM71 := Mem.join hM5 m70
                refine GoS.run [1, 79] [.n, .n, .n, .n, .n, .n, .n, .n, .n, .n, .n] _ [.inRegion (cops (csub (cd Try.f24) [1,1,1,1,1,1,0,1,0,1,0,1,0])) [3,4,5,6], .code (csub (cd Try.f24) [1,1,1,1,1,1,0,1,0,1,0,1,1]), .inBlock 0, .code (csub (cd Try.f24) [1,1,1,1,1,1,1])] [(1, pq b1), (79, .bool ((termE (h.text)) == 0))] w69 (by kernel_rfl) .nil ?_
                refine GoS.fork 79 ((termE (h.text)) == 0) (by kernel_rfl) (fun h72 => ?_) (fun h72 => ?_)
                ·
                  have h72p : (termE (h.text)) = 0 := eq_of_beq h72
                  have o73 : (Instr.loadAt 25 (pq b1)).run Try.prog w69 = .ok ((qA h v)) w69 := c_loads (ys := (qR h v)) aE25 (hM71.rd 0 rfl) (cel_obj b1 0) rfl (by intro j u hj; match j, hj with | 0, hj => exact hj | 1, hj => exact hj | 2, hj => exact hj | 3, hj => exact hj | 4, hj => exact hj | 5, hj => exact hj | 6, hj => exact hj | 7, hj => exact hj | n + 8, hj => cases hj)
                  have hM74 : Mem [] w w69 [] := hM71.sub (cn (List.Sublist.refl _))
                  refine GoS.run [79, 80] [.h ((qA h v))] _ [.inRegion (cops (csub (cd Try.f24) [1,1,1,1,1,1,0,1,0,1,0,1,0])) [4,5,6], .code (csub (cd Try.f24) [1,1,1,1,1,1,0,1,0,1,0,1,1]), .inBlock 0, .code (csub (cd Try.f24) [1,1,1,1,1,1,1])] [(79, .bool true), (80, (qA h v))] w69 (by kernel_rfl) (.cons o73 .nil) ?_
                  refine GoS.call [79] 28 #[(qA h v), .bool true, .bool false, .bool false] (some 81) [.inRegion (cops (csub (cd Try.f24) [1,1,1,1,1,1,0,1,0,1,0,1,0])) [5,6], .code (csub (cd Try.f24) [1,1,1,1,1,1,0,1,0,1,0,1,1]), .inBlock 0, .code (csub (cd Try.f24) [1,1,1,1,1,1,1])] [(79, .bool true)] (by kernel_rfl) (noth_c (w := w69) h v true false false) ?_
                  rintro _ w75 ⟨rfl, m76⟩
                  refine ⟨_, rfl, ?_⟩
                  have hM77 : Mem [] w w75 [] := Mem.join (R := []) hM74 m76
                  refine GoS.run [2] [.n, .n] _ [.inRegion (cops (csub (cd Try.f24) [1,1,1,1,1,1,0,1,0,1,0,1,0])) [], .code (csub (cd Try.f24) [1,1,1,1,1,1,0,1,0,1,0,1,1]), .inBlock 0, .code (csub (cd Try.f24) [1,1,1,1,1,1,1])] [(2, .bool (nothP h true false false))] w75 (by kernel_rfl) .nil ?_
                  refine GoS.run [2] [.n] _ [.code (csub (cd Try.f24) [1,1,1,1,1,1,0,1,0,1,0,1,1]), .inBlock 0, .code (csub (cd Try.f24) [1,1,1,1,1,1,1])] [(2, .bool (nothP h true false false))] w75 (by kernel_rfl) .nil ?_
                  refine GoS.ret (fn := Try.f24) (v := (.bool (nothP h true false false))) Try.func24 (by kernel_rfl) ?_
                  rw [hR]
                  exact ⟨ret_bool (by rw [node_1 (by omega) (by omega) (by have z := h64; simpa using z), (show decide (termE h.text = 0) = true from decide_eq_true (by omega))]; rfl), hM77.sub (List.nil_sublist _)⟩
                ·
                  have h72p : ¬ ((termE (h.text)) = 0) := p_ne h72
                  have hM78 : Mem [] w w69 [] := hM71.sub (cn (List.Sublist.refl _))
                  refine GoS.run [2] [.n, .n, .n, .n] _ [.inRegion (cops (csub (cd Try.f24) [1,1,1,1,1,1,0,1,0,1,0,1,0])) [], .code (csub (cd Try.f24) [1,1,1,1,1,1,0,1,0,1,0,1,1]), .inBlock 0, .code (csub (cd Try.f24) [1,1,1,1,1,1,1])] [(2, .bool false)] w69 (by kernel_rfl) .nil ?_
                  refine GoS.run [2] [.n] _ [.code (csub (cd Try.f24) [1,1,1,1,1,1,0,1,0,1,0,1,1]), .inBlock 0, .code (csub (cd Try.f24) [1,1,1,1,1,1,1])] [(2, .bool false)] w69 (by kernel_rfl) .nil ?_
                  refine GoS.ret (fn := Try.f24) (v := (.bool false)) Try.func24 (by kernel_rfl) ?_
                  rw [hR]
                  exact ⟨ret_bool (by rw [node_1 (by omega) (by omega) (by have z := h64; simpa using z), (show decide (termE h.text = 0) = false from decide_eq_false (by omega))]; rfl), hM78.sub (List.nil_sublist _)⟩
              ·
                have h67p : ¬ (h.op = 1) := p_ne h67
                refine GoS.run [1, 68, 83] [.n, .n, .n, .n, .n] _ [.code (csub (cd Try.f24) [1,1,1,1,1,1,0,1,0,1,1,1]), .inBlock 0, .code (csub (cd Try.f24) [1,1,1,1,1,1,1])] [(1, pq b1), (68, .int .i64 (h.op)), (83, .bool (h.op == 2))] w2 (by kernel_rfl) .nil ?_
                refine GoS.cond (h.op == 2) [.code (csub (cd Try.f24) [1,1,1,1,1,1,0,1,0,1,1,1,0]), .inBlock 0, .code (csub (cd Try.f24) [1,1,1,1,1,1,1])] [.code (csub (cd Try.f24) [1,1,1,1,1,1,0,1,0,1,1,1,1]), .inBlock 0, .code (csub (cd Try.f24) [1,1,1,1,1,1,1])] (by kernel_rfl) (fun h79 => ?_) (fun h79 => ?_)
                ·
                  have h79p : h.op = 2 := eq_of_beq h79
                  have o80 : (Instr.loadAt 9 (.pointer (some (⟨b1, 2, none⟩)))).run Try.prog w2 = .ok (.string (sb (h.text))) w2 := c_load pE9 (hM5.rd 0 rfl) (cel_obj b1 2) rfl
                  refine GoS.run [1, 86] [.n, .n, .n, .h (.string (sb (h.text)))] _ [.inRegion (cops (csub (cd Try.f24) [1,1,1,1,1,1,0,1,0,1,1,1,0,0])) [2,3,4,5,6,7,8], .code (csub (cd Try.f24) [1,1,1,1,1,1,0,1,0,1,1,1,0,1]), .inBlock 0, .code (csub (cd Try.f24) [1,1,1,1,1,1,1])] [(1, pq b1), (86, .string (sb (h.text)))] w2 (by kernel_rfl) (.cons o80 .nil) ?_
                  refine GoS.call [1] 31 #[.string (sb (h.text)), .string (sb ([]))] (some 87) [.inRegion (cops (csub (cd Try.f24) [1,1,1,1,1,1,0,1,0,1,1,1,0,0])) [3,4,5,6,7,8], .code (csub (cd Try.f24) [1,1,1,1,1,1,0,1,0,1,1,1,0,1]), .inBlock 0, .code (csub (cd Try.f24) [1,1,1,1,1,1,1])] [(1, pq b1)] (by kernel_rfl) (letters_c (h.text) ([]) (by rw [he]; omega) (by decide) w2) ?_
                  rintro _ w81 ⟨rfl, m82⟩
                  refine ⟨_, rfl, ?_⟩
                  have hM83 : Mem [] w w81 [⟨25, 8, (obj b1), 1, (qR h v)⟩] := Mem.join (R := []) hM5 m82
                  refine GoS.run [1, 89] [.n, .n] _ [.inRegion (cops (csub (cd Try.f24) [1,1,1,1,1,1,0,1,0,1,1,1,0,0])) [5,6,7,8], .code (csub (cd Try.f24) [1,1,1,1,1,1,0,1,0,1,1,1,0,1]), .inBlock 0, .code (csub (cd Try.f24) [1,1,1,1,1,1,1])] [(1, pq b1), (89, .bool (decide ((((letN (h.text) ([])) : Nat) : Int) > 0)))] w81 (by kernel_rfl) .nil ?_
                  refine GoS.fork 89 (decide ((((letN (h.text) ([])) : Nat) : Int) > 0)) (by kernel_rfl) (fun h84 => ?_) (fun h84 => ?_)
                  ·
                    have h84p : (((letN (h.text) ([])) : Nat) : Int) > 0 := of_decide_eq_true h84
                    have o85 : (Instr.loadAt 25 (pq b1)).run Try.prog w81 = .ok ((qA h v)) w81 := c_loads (ys := (qR h v)) aE25 (hM83.rd 0 rfl) (cel_obj b1 0) rfl (by intro j u hj; match j, hj with | 0, hj => exact hj | 1, hj => exact hj | 2, hj => exact hj | 3, hj => exact hj | 4, hj => exact hj | 5, hj => exact hj | 6, hj => exact hj | 7, hj => exact hj | n + 8, hj => cases hj)
                    have hM86 : Mem [] w w81 [] := hM83.sub (cn (List.Sublist.refl _))
                    refine GoS.run [89, 90] [.h ((qA h v))] _ [.inRegion (cops (csub (cd Try.f24) [1,1,1,1,1,1,0,1,0,1,1,1,0,0])) [6,7,8], .code (csub (cd Try.f24) [1,1,1,1,1,1,0,1,0,1,1,1,0,1]), .inBlock 0, .code (csub (cd Try.f24) [1,1,1,1,1,1,1])] [(89, .bool true), (90, (qA h v))] w81 (by kernel_rfl) (.cons o85 .nil) ?_
                    refine GoS.call [89] 28 #[(qA h v), .bool true, .bool false, .bool false] (some 91) [.inRegion (cops (csub (cd Try.f24) [1,1,1,1,1,1,0,1,0,1,1,1,0,0])) [7,8], .code (csub (cd Try.f24) [1,1,1,1,1,1,0,1,0,1,1,1,0,1]), .inBlock 0, .code (csub (cd Try.f24) [1,1,1,1,1,1,1])] [(89, .bool true)] (by kernel_rfl) (noth_c (w := w81) h v true false false) ?_
                    rintro _ w87 ⟨rfl, m88⟩
                    refine ⟨_, rfl, ?_⟩
                    have hM89 : Mem [] w w87 [] := Mem.join (R := []) hM86 m88
                    refine GoS.run [2] [.n, .n] _ [.inRegion (cops (csub (cd Try.f24) [1,1,1,1,1,1,0,1,0,1,1,1,0,0])) [], .code (csub (cd Try.f24) [1,1,1,1,1,1,0,1,0,1,1,1,0,1]), .inBlock 0, .code (csub (cd Try.f24) [1,1,1,1,1,1,1])] [(2, .bool (nothP h true false false))] w87 (by kernel_rfl) .nil ?_
                    refine GoS.run [2] [.n] _ [.code (csub (cd Try.f24) [1,1,1,1,1,1,0,1,0,1,1,1,0,1]), .inBlock 0, .code (csub (cd Try.f24) [1,1,1,1,1,1,1])] [(2, .bool (nothP h true false false))] w87 (by kernel_rfl) .nil ?_
                    refine GoS.ret (fn := Try.f24) (v := (.bool (nothP h true false false))) Try.func24 (by kernel_rfl) ?_
                    rw [hR]
                    exact ⟨ret_bool (by rw [node_2 (by omega) (by omega) (by have z := h64; simpa using z), (show decide (0 < letN h.text []) = true from decide_eq_true (by omega))]; rfl), hM89.sub (List.nil_sublist _)⟩
                  ·
                    have h84p : ¬ ((((letN (h.text) ([])) : Nat) : Int) > 0) := of_decide_eq_false h84
                    have hM90 : Mem [] w w81 [] := hM83.sub (cn (List.Sublist.refl _))
                    refine GoS.run [2] [.n, .n, .n, .n] _ [.inRegion (cops (csub (cd Try.f24) [1,1,1,1,1,1,0,1,0,1,1,1,0,0])) [], .code (csub (cd Try.f24) [1,1,1,1,1,1,0,1,0,1,1,1,0,1]), .inBlock 0, .code (csub (cd Try.f24) [1,1,1,1,1,1,1])] [(2, .bool false)] w81 (by kernel_rfl) .nil ?_
                    refine GoS.run [2] [.n] _ [.code (csub (cd Try.f24) [1,1,1,1,1,1,0,1,0,1,1,1,0,1]), .inBlock 0, .code (csub (cd Try.f24) [1,1,1,1,1,1,1])] [(2, .bool false)] w81 (by kernel_rfl) .nil ?_
                    refine GoS.ret (fn := Try.f24) (v := (.bool false)) Try.func24 (by kernel_rfl) ?_
                    rw [hR]
                    exact ⟨ret_bool (by rw [node_2 (by omega) (by omega) (by have z := h64; simpa using z), (show decide (0 < letN h.text []) = false from decide_eq_false (by omega))]; rfl), hM90.sub (List.nil_sublist _)⟩
                ·
                  have h79p : ¬ (h.op = 2) := p_ne h79
                  refine GoS.run [1, 68, 93] [.n, .n, .n, .n, .n] _ [.code (csub (cd Try.f24) [1,1,1,1,1,1,0,1,0,1,1,1,1,1]), .inBlock 0, .code (csub (cd Try.f24) [1,1,1,1,1,1,1])] [(1, pq b1), (68, .int .i64 (h.op)), (93, .bool (h.op == 3))] w2 (by kernel_rfl) .nil ?_
                  refine GoS.cond (h.op == 3) [.code (csub (cd Try.f24) [1,1,1,1,1,1,0,1,0,1,1,1,1,1,0]), .inBlock 0, .code (csub (cd Try.f24) [1,1,1,1,1,1,1])] [.code (csub (cd Try.f24) [1,1,1,1,1,1,0,1,0,1,1,1,1,1,1]), .inBlock 0, .code (csub (cd Try.f24) [1,1,1,1,1,1,1])] (by kernel_rfl) (fun h91 => ?_) (fun h91 => ?_)
                  ·
                    have h91p : h.op = 3 := eq_of_beq h91
                    have o92 : (Instr.loadAt 9 (.pointer (some (⟨b1, 2, none⟩)))).run Try.prog w2 = .ok (.string (sb (h.text))) w2 := c_load pE9 (hM5.rd 0 rfl) (cel_obj b1 2) rfl
                    refine GoS.run [1, 96] [.n, .n, .n, .h (.string (sb (h.text)))] _ [.inRegion (cops (csub (cd Try.f24) [1,1,1,1,1,1,0,1,0,1,1,1,1,1,0,0])) [2,3,4,5,6,7,8], .code (csub (cd Try.f24) [1,1,1,1,1,1,0,1,0,1,1,1,1,1,0,1]), .inBlock 0, .code (csub (cd Try.f24) [1,1,1,1,1,1,1])] [(1, pq b1), (96, .string (sb (h.text)))] w2 (by kernel_rfl) (.cons o92 .nil) ?_
                    refine GoS.call [1] 31 #[.string (sb (h.text)), .string (sb ([42, 63] : List UInt8))] (some 97) [.inRegion (cops (csub (cd Try.f24) [1,1,1,1,1,1,0,1,0,1,1,1,1,1,0,0])) [3,4,5,6,7,8], .code (csub (cd Try.f24) [1,1,1,1,1,1,0,1,0,1,1,1,1,1,0,1]), .inBlock 0, .code (csub (cd Try.f24) [1,1,1,1,1,1,1])] [(1, pq b1)] (by kernel_rfl) (letters_c (h.text) ([42, 63] : List UInt8) (by rw [he]; omega) (by decide) w2) ?_
                    rintro _ w93 ⟨rfl, m94⟩
                    refine ⟨_, rfl, ?_⟩
                    have hM95 : Mem [] w w93 [⟨25, 8, (obj b1), 1, (qR h v)⟩] := Mem.join (R := []) hM5 m94
                    refine GoS.run [1, 99] [.n, .n] _ [.inRegion (cops (csub (cd Try.f24) [1,1,1,1,1,1,0,1,0,1,1,1,1,1,0,0])) [5,6,7,8], .code (csub (cd Try.f24) [1,1,1,1,1,1,0,1,0,1,1,1,1,1,0,1]), .inBlock 0, .code (csub (cd Try.f24) [1,1,1,1,1,1,1])] [(1, pq b1), (99, .bool (decide ((((letN (h.text) ([42, 63] : List UInt8)) : Nat) : Int) > 0)))] w93 (by kernel_rfl) .nil ?_
                    refine GoS.fork 99 (decide ((((letN (h.text) ([42, 63] : List UInt8)) : Nat) : Int) > 0)) (by kernel_rfl) (fun h96 => ?_) (fun h96 => ?_)
                    ·
                      have h96p : (((letN (h.text) ([42, 63] : List UInt8)) : Nat) : Int) > 0 := of_decide_eq_true h96
                      have o97 : (Instr.loadAt 25 (pq b1)).run Try.prog w93 = .ok ((qA h v)) w93 := c_loads (ys := (qR h v)) aE25 (hM95.rd 0 rfl) (cel_obj b1 0) rfl (by intro j u hj; match j, hj with | 0, hj => exact hj | 1, hj => exact hj | 2, hj => exact hj | 3, hj => exact hj | 4, hj => exact hj | 5, hj => exact hj | 6, hj => exact hj | 7, hj => exact hj | n + 8, hj => cases hj)
                      have hM98 : Mem [] w w93 [] := hM95.sub (cn (List.Sublist.refl _))
                      refine GoS.run [99, 100] [.h ((qA h v))] _ [.inRegion (cops (csub (cd Try.f24) [1,1,1,1,1,1,0,1,0,1,1,1,1,1,0,0])) [6,7,8], .code (csub (cd Try.f24) [1,1,1,1,1,1,0,1,0,1,1,1,1,1,0,1]), .inBlock 0, .code (csub (cd Try.f24) [1,1,1,1,1,1,1])] [(99, .bool true), (100, (qA h v))] w93 (by kernel_rfl) (.cons o97 .nil) ?_
                      refine GoS.call [99] 28 #[(qA h v), .bool true, .bool false, .bool false] (some 101) [.inRegion (cops (csub (cd Try.f24) [1,1,1,1,1,1,0,1,0,1,1,1,1,1,0,0])) [7,8], .code (csub (cd Try.f24) [1,1,1,1,1,1,0,1,0,1,1,1,1,1,0,1]), .inBlock 0, .code (csub (cd Try.f24) [1,1,1,1,1,1,1])] [(99, .bool true)] (by kernel_rfl) (noth_c (w := w93) h v true false false) ?_
                      rintro _ w99 ⟨rfl, m100⟩
                      refine ⟨_, rfl, ?_⟩
                      have hM101 : Mem [] w w99 [] := Mem.join (R := []) hM98 m100
                      refine GoS.run [2] [.n, .n] _ [.inRegion (cops (csub (cd Try.f24) [1,1,1,1,1,1,0,1,0,1,1,1,1,1,0,0])) [], .code (csub (cd Try.f24) [1,1,1,1,1,1,0,1,0,1,1,1,1,1,0,1]), .inBlock 0, .code (csub (cd Try.f24) [1,1,1,1,1,1,1])] [(2, .bool (nothP h true false false))] w99 (by kernel_rfl) .nil ?_
                      refine GoS.run [2] [.n] _ [.code (csub (cd Try.f24) [1,1,1,1,1,1,0,1,0,1,1,1,1,1,0,1]), .inBlock 0, .code (csub (cd Try.f24) [1,1,1,1,1,1,1])] [(2, .bool (nothP h true false false))] w99 (by kernel_rfl) .nil ?_
                      refine GoS.ret (fn := Try.f24) (v := (.bool (nothP h true false false))) Try.func24 (by kernel_rfl) ?_
                      rw [hR]
                      exact ⟨ret_bool (by rw [node_3 (by omega) (by omega) (by have z := h64; simpa using z), (show decide (0 < letN h.text [42, 63]) = true from decide_eq_true (by omega))]; rfl), hM101.sub (List.nil_sublist _)⟩
                    ·
                      have h96p : ¬ ((((letN (h.text) ([42, 63] : List UInt8)) : Nat) : Int) > 0) := of_decide_eq_false h96
                      have hM102 : Mem [] w w93 [] := hM95.sub (cn (List.Sublist.refl _))
                      refine GoS.run [2] [.n, .n, .n, .n] _ [.inRegion (cops (csub (cd Try.f24) [1,1,1,1,1,1,0,1,0,1,1,1,1,1,0,0])) [], .code (csub (cd Try.f24) [1,1,1,1,1,1,0,1,0,1,1,1,1,1,0,1]), .inBlock 0, .code (csub (cd Try.f24) [1,1,1,1,1,1,1])] [(2, .bool false)] w93 (by kernel_rfl) .nil ?_
                      refine GoS.run [2] [.n] _ [.code (csub (cd Try.f24) [1,1,1,1,1,1,0,1,0,1,1,1,1,1,0,1]), .inBlock 0, .code (csub (cd Try.f24) [1,1,1,1,1,1,1])] [(2, .bool false)] w93 (by kernel_rfl) .nil ?_
                      refine GoS.ret (fn := Try.f24) (v := (.bool false)) Try.func24 (by kernel_rfl) ?_
                      rw [hR]
                      exact ⟨ret_bool (by rw [node_3 (by omega) (by omega) (by have z := h64; simpa using z), (show decide (0 < letN h.text [42, 63]) = false from decide_eq_false (by omega))]; rfl), hM102.sub (List.nil_sublist _)⟩
                  ·
                    have h91p : ¬ (h.op = 3) := p_ne h91
                    refine GoS.run [1, 68, 103] [.n, .n, .n, .n, .n] _ [.code (csub (cd Try.f24) [1,1,1,1,1,1,0,1,0,1,1,1,1,1,1,1]), .inBlock 0, .code (csub (cd Try.f24) [1,1,1,1,1,1,1])] [(1, pq b1), (68, .int .i64 (h.op)), (103, .bool (h.op == 4))] w2 (by kernel_rfl) .nil ?_
                    refine GoS.cond (h.op == 4) [.code (csub (cd Try.f24) [1,1,1,1,1,1,0,1,0,1,1,1,1,1,1,1,0]), .inBlock 0, .code (csub (cd Try.f24) [1,1,1,1,1,1,1])] [.code (csub (cd Try.f24) [1,1,1,1,1,1,0,1,0,1,1,1,1,1,1,1,1]), .inBlock 0, .code (csub (cd Try.f24) [1,1,1,1,1,1,1])] (by kernel_rfl) (fun h103 => ?_) (fun h103 => ?_)
                    ·
                      have h103p : h.op = 4 := eq_of_beq h103
                      have o104 : (Instr.loadAt 9 (.pointer (some (⟨b1, 2, none⟩)))).run Try.prog w2 = .ok (.string (sb (h.text))) w2 := c_load pE9 (hM5.rd 0 rfl) (cel_obj b1 2) rfl
                      refine GoS.run [1, 106] [.n, .n, .n, .h (.string (sb (h.text)))] _ [.inRegion (cops (csub (cd Try.f24) [1,1,1,1,1,1,0,1,0,1,1,1,1,1,1,1,0,0])) [2,3], .code (csub (cd Try.f24) [1,1,1,1,1,1,0,1,0,1,1,1,1,1,1,1,0,1]), .inBlock 0, .code (csub (cd Try.f24) [1,1,1,1,1,1,1])] [(1, pq b1), (106, .string (sb (h.text)))] w2 (by kernel_rfl) (.cons o104 .nil) ?_
                      refine GoS.call [1] 31 #[.string (sb (h.text)), .string (sb ([]))] (some 107) [.inRegion (cops (csub (cd Try.f24) [1,1,1,1,1,1,0,1,0,1,1,1,1,1,1,1,0,0])) [3], .code (csub (cd Try.f24) [1,1,1,1,1,1,0,1,0,1,1,1,1,1,1,1,0,1]), .inBlock 0, .code (csub (cd Try.f24) [1,1,1,1,1,1,1])] [(1, pq b1)] (by kernel_rfl) (letters_c (h.text) ([]) (by rw [he]; omega) (by decide) w2) ?_
                      rintro _ w105 ⟨rfl, m106⟩
                      refine ⟨_, rfl, ?_⟩
                      have hM107 : Mem [] w w105 [⟨25, 8, (obj b1), 1, (qR h v)⟩] := Mem.join (R := []) hM5 m106
                      refine GoS.run [1, 6, 110] [.n, .n, .n, .n, .n, .n, .n] _ [.inRegion (cops (csub (cd Try.f24) [1,1,1,1,1,1,0,1,0,1,1,1,1,1,1,1,0,1,0])) [3,4,5,6,7,8,9,10,11,12,13,14,15,16,17,18,19,20,21,22,23,24,25,26,27], .code (csub (cd Try.f24) [1,1,1,1,1,1,0,1,0,1,1,1,1,1,1,1,0,1,1]), .inBlock 0, .code (csub (cd Try.f24) [1,1,1,1,1,1,1])] [(1, pq b1), (6, .int .i64 (((letN (h.text) ([])) : Nat) : Int)), (110, .bool (decide ((((letN (h.text) ([])) : Nat) : Int) > 0)))] w105 (by kernel_rfl) .nil ?_
                      refine GoS.fork 110 (decide ((((letN (h.text) ([])) : Nat) : Int) > 0)) (by kernel_rfl) (fun h108 => ?_) (fun h108 => ?_)
                      ·
                        have h108p : (((letN (h.text) ([])) : Nat) : Int) > 0 := of_decide_eq_true h108
                        have o109 : (Instr.loadAt 3 (.pointer (some (⟨b1, 3, none⟩)))).run Try.prog w105 = .ok (.int .i64 (h.edits)) w105 := c_load pE3 (hM107.rd 0 rfl) (cel_obj b1 3) rfl
                        refine GoS.run [1, 6, 115] [.n, .h (.int .i64 (h.edits)), .n, .n, .n] _ [.inRegion (cops (csub (cd Try.f24) [1,1,1,1,1,1,0,1,0,1,1,1,1,1,1,1,0,1,0])) [8,9,10,11,12,13,14,15,16,17,18,19,20,21,22,23,24,25,26,27], .code (csub (cd Try.f24) [1,1,1,1,1,1,0,1,0,1,1,1,1,1,1,1,0,1,1]), .inBlock 0, .code (csub (cd Try.f24) [1,1,1,1,1,1,1])] [(1, pq b1), (6, .int .i64 (((letN (h.text) ([])) : Nat) : Int)), (115, .bool (decide (h.edits ≥ 0)))] w105 (by kernel_rfl) (.cons o109 .nil) ?_
                        refine GoS.fork 115 (decide (h.edits ≥ 0)) (by kernel_rfl) (fun h110 => ?_) (fun h110 => ?_)
                        ·
                          have h110p : h.edits ≥ 0 := of_decide_eq_true h110
                          have o111 : (Instr.loadAt 3 (.pointer (some (⟨b1, 3, none⟩)))).run Try.prog w105 = .ok (.int .i64 (h.edits)) w105 := c_load pE3 (hM107.rd 0 rfl) (cel_obj b1 3) rfl
                          refine GoS.run [1, 6, 120] [.n, .h (.int .i64 (h.edits)), .n, .n, .n] _ [.inRegion (cops (csub (cd Try.f24) [1,1,1,1,1,1,0,1,0,1,1,1,1,1,1,1,0,1,0])) [13,14,15,16,17,18,19,20,21,22,23,24,25,26,27], .code (csub (cd Try.f24) [1,1,1,1,1,1,0,1,0,1,1,1,1,1,1,1,0,1,1]), .inBlock 0, .code (csub (cd Try.f24) [1,1,1,1,1,1,1])] [(1, pq b1), (6, .int .i64 (((letN (h.text) ([])) : Nat) : Int)), (120, .bool (decide (h.edits ≤ 2)))] w105 (by kernel_rfl) (.cons o111 .nil) ?_
                          refine GoS.fork 120 (decide (h.edits ≤ 2)) (by kernel_rfl) (fun h112 => ?_) (fun h112 => ?_)
                          ·
                            have h112p : h.edits ≤ 2 := of_decide_eq_true h112
                            have o113 : (Instr.loadAt 3 (.pointer (some (⟨b1, 4, none⟩)))).run Try.prog w105 = .ok (.int .i64 (h.exact)) w105 := c_load pE3 (hM107.rd 0 rfl) (cel_obj b1 4) rfl
                            refine GoS.run [1, 6, 125] [.n, .h (.int .i64 (h.exact)), .n, .n, .n] _ [.inRegion (cops (csub (cd Try.f24) [1,1,1,1,1,1,0,1,0,1,1,1,1,1,1,1,0,1,0])) [18,19,20,21,22,23,24,25,26,27], .code (csub (cd Try.f24) [1,1,1,1,1,1,0,1,0,1,1,1,1,1,1,1,0,1,1]), .inBlock 0, .code (csub (cd Try.f24) [1,1,1,1,1,1,1])] [(1, pq b1), (6, .int .i64 (((letN (h.text) ([])) : Nat) : Int)), (125, .bool (decide (h.exact ≥ 0)))] w105 (by kernel_rfl) (.cons o113 .nil) ?_
                            refine GoS.fork 125 (decide (h.exact ≥ 0)) (by kernel_rfl) (fun h114 => ?_) (fun h114 => ?_)
                            ·
                              have h114p : h.exact ≥ 0 := of_decide_eq_true h114
                              have o115 : (Instr.loadAt 3 (.pointer (some (⟨b1, 4, none⟩)))).run Try.prog w105 = .ok (.int .i64 (h.exact)) w105 := c_load pE3 (hM107.rd 0 rfl) (cel_obj b1 4) rfl
                              refine GoS.run [1, 131] [.n, .h (.int .i64 (h.exact)), .n, .n, .n, .n] _ [.inRegion (cops (csub (cd Try.f24) [1,1,1,1,1,1,0,1,0,1,1,1,1,1,1,1,0,1,0])) [24,25,26,27], .code (csub (cd Try.f24) [1,1,1,1,1,1,0,1,0,1,1,1,1,1,1,1,0,1,1]), .inBlock 0, .code (csub (cd Try.f24) [1,1,1,1,1,1,1])] [(1, pq b1), (131, .bool (decide (h.exact ≤ (((letN (h.text) ([])) : Nat) : Int))))] w105 (by kernel_rfl) (.cons o115 .nil) ?_
                              refine GoS.fork 131 (decide (h.exact ≤ (((letN (h.text) ([])) : Nat) : Int))) (by kernel_rfl) (fun h116 => ?_) (fun h116 => ?_)
                              ·
                                have h116p : h.exact ≤ (((letN (h.text) ([])) : Nat) : Int) := of_decide_eq_true h116
                                have o117 : (Instr.loadAt 25 (pq b1)).run Try.prog w105 = .ok ((qA h v)) w105 := c_loads (ys := (qR h v)) aE25 (hM107.rd 0 rfl) (cel_obj b1 0) rfl (by intro j u hj; match j, hj with | 0, hj => exact hj | 1, hj => exact hj | 2, hj => exact hj | 3, hj => exact hj | 4, hj => exact hj | 5, hj => exact hj | 6, hj => exact hj | 7, hj => exact hj | n + 8, hj => cases hj)
                                have hM118 : Mem [] w w105 [] := hM107.sub (cn (List.Sublist.refl _))
                                refine GoS.run [131, 132] [.h ((qA h v))] _ [.inRegion (cops (csub (cd Try.f24) [1,1,1,1,1,1,0,1,0,1,1,1,1,1,1,1,0,1,0])) [25,26,27], .code (csub (cd Try.f24) [1,1,1,1,1,1,0,1,0,1,1,1,1,1,1,1,0,1,1]), .inBlock 0, .code (csub (cd Try.f24) [1,1,1,1,1,1,1])] [(131, .bool true), (132, (qA h v))] w105 (by kernel_rfl) (.cons o117 .nil) ?_
                                refine GoS.call [131] 28 #[(qA h v), .bool true, .bool true, .bool false] (some 133) [.inRegion (cops (csub (cd Try.f24) [1,1,1,1,1,1,0,1,0,1,1,1,1,1,1,1,0,1,0])) [26,27], .code (csub (cd Try.f24) [1,1,1,1,1,1,0,1,0,1,1,1,1,1,1,1,0,1,1]), .inBlock 0, .code (csub (cd Try.f24) [1,1,1,1,1,1,1])] [(131, .bool true)] (by kernel_rfl) (noth_c (w := w105) h v true true false) ?_
                                rintro _ w119 ⟨rfl, m120⟩
                                refine ⟨_, rfl, ?_⟩
                                have hM121 : Mem [] w w119 [] := Mem.join (R := []) hM118 m120
                                refine GoS.run [2] [.n, .n] _ [.inRegion (cops (csub (cd Try.f24) [1,1,1,1,1,1,0,1,0,1,1,1,1,1,1,1,0,1,0])) [], .code (csub (cd Try.f24) [1,1,1,1,1,1,0,1,0,1,1,1,1,1,1,1,0,1,1]), .inBlock 0, .code (csub (cd Try.f24) [1,1,1,1,1,1,1])] [(2, .bool (nothP h true true false))] w119 (by kernel_rfl) .nil ?_
                                refine GoS.run [2] [.n] _ [.code (csub (cd Try.f24) [1,1,1,1,1,1,0,1,0,1,1,1,1,1,1,1,0,1,1]), .inBlock 0, .code (csub (cd Try.f24) [1,1,1,1,1,1,1])] [(2, .bool (nothP h true true false))] w119 (by kernel_rfl) .nil ?_
                                refine GoS.ret (fn := Try.f24) (v := (.bool (nothP h true true false))) Try.func24 (by kernel_rfl) ?_
                                rw [hR]
                                exact ⟨ret_bool (by rw [node_4 (by omega) (by omega) (by have z := h64; simpa using z), (show decide (0 < letN h.text [] ∧ 0 ≤ h.edits ∧ h.edits ≤ 2 ∧ 0 ≤ h.exact ∧ h.exact ≤ (letN h.text [] : Int)) = true from decide_eq_true (by omega))]; rfl), hM121.sub (List.nil_sublist _)⟩
                              ·
                                have h116p : ¬ (h.exact ≤ (((letN (h.text) ([])) : Nat) : Int)) := of_decide_eq_false h116
                                have hM122 : Mem [] w w105 [] := hM107.sub (cn (List.Sublist.refl _))
                                refine GoS.run [2] [.n, .n, .n, .n] _ [.inRegion (cops (csub (cd Try.f24) [1,1,1,1,1,1,0,1,0,1,1,1,1,1,1,1,0,1,0])) [], .code (csub (cd Try.f24) [1,1,1,1,1,1,0,1,0,1,1,1,1,1,1,1,0,1,1]), .inBlock 0, .code (csub (cd Try.f24) [1,1,1,1,1,1,1])] [(2, .bool false)] w105 (by kernel_rfl) .nil ?_
                                refine GoS.run [2] [.n] _ [.code (csub (cd Try.f24) [1,1,1,1,1,1,0,1,0,1,1,1,1,1,1,1,0,1,1]), .inBlock 0, .code (csub (cd Try.f24) [1,1,1,1,1,1,1])] [(2, .bool false)] w105 (by kernel_rfl) .nil ?_
                                refine GoS.ret (fn := Try.f24) (v := (.bool false)) Try.func24 (by kernel_rfl) ?_
                                rw [hR]
                                exact ⟨ret_bool (by rw [node_4 (by omega) (by omega) (by have z := h64; simpa using z), (show decide (0 < letN h.text [] ∧ 0 ≤ h.edits ∧ h.edits ≤ 2 ∧ 0 ≤ h.exact ∧ h.exact ≤ (letN h.text [] : Int)) = false from decide_eq_false (by omega))]; rfl), hM122.sub (List.nil_sublist _)⟩
                            ·
                              have h114p : ¬ (h.exact ≥ 0) := of_decide_eq_false h114
                              have hM123 : Mem [] w w105 [] := hM107.sub (cn (List.Sublist.refl _))
                              refine GoS.run [2] [.n, .n, .n, .n, .n, .n, .n, .n, .n, .n] _ [.inRegion (cops (csub (cd Try.f24) [1,1,1,1,1,1,0,1,0,1,1,1,1,1,1,1,0,1,0])) [], .code (csub (cd Try.f24) [1,1,1,1,1,1,0,1,0,1,1,1,1,1,1,1,0,1,1]), .inBlock 0, .code (csub (cd Try.f24) [1,1,1,1,1,1,1])] [(2, .bool false)] w105 (by kernel_rfl) .nil ?_
                              refine GoS.run [2] [.n] _ [.code (csub (cd Try.f24) [1,1,1,1,1,1,0,1,0,1,1,1,1,1,1,1,0,1,1]), .inBlock 0, .code (csub (cd Try.f24) [1,1,1,1,1,1,1])] [(2, .bool false)] w105 (by kernel_rfl) .nil ?_
                              refine GoS.ret (fn := Try.f24) (v := (.bool false)) Try.func24 (by kernel_rfl) ?_
                              rw [hR]
                              exact ⟨ret_bool (by rw [node_4 (by omega) (by omega) (by have z := h64; simpa using z), (show decide (0 < letN h.text [] ∧ 0 ≤ h.edits ∧ h.edits ≤ 2 ∧ 0 ≤ h.exact ∧ h.exact ≤ (letN h.text [] : Int)) = false from decide_eq_false (by omega))]; rfl), hM123.sub (List.nil_sublist _)⟩
                          ·
                            have h112p : ¬ (h.edits ≤ 2) := of_decide_eq_false h112
                            have hM124 : Mem [] w w105 [] := hM107.sub (cn (List.Sublist.refl _))
                            refine GoS.run [2] [.n, .n, .n, .n, .n, .n, .n, .n, .n, .n, .n, .n, .n, .n, .n] _ [.inRegion (cops (csub (cd Try.f24) [1,1,1,1,1,1,0,1,0,1,1,1,1,1,1,1,0,1,0])) [], .code (csub (cd Try.f24) [1,1,1,1,1,1,0,1,0,1,1,1,1,1,1,1,0,1,1]), .inBlock 0, .code (csub (cd Try.f24) [1,1,1,1,1,1,1])] [(2, .bool false)] w105 (by kernel_rfl) .nil ?_
                            refine GoS.run [2] [.n] _ [.code (csub (cd Try.f24) [1,1,1,1,1,1,0,1,0,1,1,1,1,1,1,1,0,1,1]), .inBlock 0, .code (csub (cd Try.f24) [1,1,1,1,1,1,1])] [(2, .bool false)] w105 (by kernel_rfl) .nil ?_
                            refine GoS.ret (fn := Try.f24) (v := (.bool false)) Try.func24 (by kernel_rfl) ?_
                            rw [hR]
                            exact ⟨ret_bool (by rw [node_4 (by omega) (by omega) (by have z := h64; simpa using z), (show decide (0 < letN h.text [] ∧ 0 ≤ h.edits ∧ h.edits ≤ 2 ∧ 0 ≤ h.exact ∧ h.exact ≤ (letN h.text [] : Int)) = false from decide_eq_false (by omega))]; rfl), hM124.sub (List.nil_sublist _)⟩
                        ·
                          have h110p : ¬ (h.edits ≥ 0) := of_decide_eq_false h110
                          have hM125 : Mem [] w w105 [] := hM107.sub (cn (List.Sublist.refl _))
                          refine GoS.run [2] [.n, .n, .n, .n, .n, .n, .n, .n, .n, .n, .n, .n, .n, .n, .n, .n, .n, .n, .n, .n] _ [.inRegion (cops (csub (cd Try.f24) [1,1,1,1,1,1,0,1,0,1,1,1,1,1,1,1,0,1,0])) [], .code (csub (cd Try.f24) [1,1,1,1,1,1,0,1,0,1,1,1,1,1,1,1,0,1,1]), .inBlock 0, .code (csub (cd Try.f24) [1,1,1,1,1,1,1])] [(2, .bool false)] w105 (by kernel_rfl) .nil ?_
                          refine GoS.run [2] [.n] _ [.code (csub (cd Try.f24) [1,1,1,1,1,1,0,1,0,1,1,1,1,1,1,1,0,1,1]), .inBlock 0, .code (csub (cd Try.f24) [1,1,1,1,1,1,1])] [(2, .bool false)] w105 (by kernel_rfl) .nil ?_
                          refine GoS.ret (fn := Try.f24) (v := (.bool false)) Try.func24 (by kernel_rfl) ?_
                          rw [hR]
                          exact ⟨ret_bool (by rw [node_4 (by omega) (by omega) (by have z := h64; simpa using z), (show decide (0 < letN h.text [] ∧ 0 ≤ h.edits ∧ h.edits ≤ 2 ∧ 0 ≤ h.exact ∧ h.exact ≤ (letN h.text [] : Int)) = false from decide_eq_false (by omega))]; rfl), hM125.sub (List.nil_sublist _)⟩
                      ·
                        have h108p : ¬ ((((letN (h.text) ([])) : Nat) : Int) > 0) := of_decide_eq_false h108
                        have hM126 : Mem [] w w105 [] := hM107.sub (cn (List.Sublist.refl _))
                        refine GoS.run [2] [.n, .n, .n, .n, .n, .n, .n, .n, .n, .n, .n, .n, .n, .n, .n, .n, .n, .n, .n, .n, .n, .n, .n, .n, .n] _ [.inRegion (cops (csub (cd Try.f24) [1,1,1,1,1,1,0,1,0,1,1,1,1,1,1,1,0,1,0])) [], .code (csub (cd Try.f24) [1,1,1,1,1,1,0,1,0,1,1,1,1,1,1,1,0,1,1]), .inBlock 0, .code (csub (cd Try.f24) [1,1,1,1,1,1,1])] [(2, .bool false)] w105 (by kernel_rfl) .nil ?_
                        refine GoS.run [2] [.n] _ [.code (csub (cd Try.f24) [1,1,1,1,1,1,0,1,0,1,1,1,1,1,1,1,0,1,1]), .inBlock 0, .code (csub (cd Try.f24) [1,1,1,1,1,1,1])] [(2, .bool false)] w105 (by kernel_rfl) .nil ?_
                        refine GoS.ret (fn := Try.f24) (v := (.bool false)) Try.func24 (by kernel_rfl) ?_
                        rw [hR]
                        exact ⟨ret_bool (by rw [node_4 (by omega) (by omega) (by have z := h64; simpa using z), (show decide (0 < letN h.text [] ∧ 0 ≤ h.edits ∧ h.edits ≤ 2 ∧ 0 ≤ h.exact ∧ h.exact ≤ (letN h.text [] : Int)) = false from decide_eq_false (by omega))]; rfl), hM126.sub (List.nil_sublist _)⟩
                    ·
                      have h103p : ¬ (h.op = 4) := p_ne h103
                      refine GoS.run [1, 68, 135] [.n, .n, .n, .n, .n] _ [.code (csub (cd Try.f24) [1,1,1,1,1,1,0,1,0,1,1,1,1,1,1,1,1,1]), .inBlock 0, .code (csub (cd Try.f24) [1,1,1,1,1,1,1])] [(1, pq b1), (68, .int .i64 (h.op)), (135, .bool (h.op == 5))] w2 (by kernel_rfl) .nil ?_
                      refine GoS.cond (h.op == 5) [.code (csub (cd Try.f24) [1,1,1,1,1,1,0,1,0,1,1,1,1,1,1,1,1,1,0]), .inBlock 0, .code (csub (cd Try.f24) [1,1,1,1,1,1,1])] [.code (csub (cd Try.f24) [1,1,1,1,1,1,0,1,0,1,1,1,1,1,1,1,1,1,1]), .inBlock 0, .code (csub (cd Try.f24) [1,1,1,1,1,1,1])] (by kernel_rfl) (fun h127 => ?_) (fun h127 => ?_)
                      ·
                        have h127p : h.op = 5 := eq_of_beq h127
                        have o128 : (Instr.loadAt 9 (.pointer (some (⟨b1, 2, none⟩)))).run Try.prog w2 = .ok (.string (sb (h.text))) w2 := c_load pE9 (hM5.rd 0 rfl) (cel_obj b1 2) rfl
                        refine GoS.run [1, 139] [.n, .n, .n, .h (.string (sb (h.text)))] _ [.inRegion (cops (csub (cd Try.f24) [1,1,1,1,1,1,0,1,0,1,1,1,1,1,1,1,1,1,0,0])) [2,3,4,5,6,7], .code (csub (cd Try.f24) [1,1,1,1,1,1,0,1,0,1,1,1,1,1,1,1,1,1,0,1]), .inBlock 0, .code (csub (cd Try.f24) [1,1,1,1,1,1,1])] [(1, pq b1), (139, .string (sb (h.text)))] w2 (by kernel_rfl) (.cons o128 .nil) ?_
                        refine GoS.call [1] 32 #[.string (sb (h.text))] (some 140) [.inRegion (cops (csub (cd Try.f24) [1,1,1,1,1,1,0,1,0,1,1,1,1,1,1,1,1,1,0,0])) [3,4,5,6,7], .code (csub (cd Try.f24) [1,1,1,1,1,1,0,1,0,1,1,1,1,1,1,1,1,1,0,1]), .inBlock 0, .code (csub (cd Try.f24) [1,1,1,1,1,1,1])] [(1, pq b1)] (by kernel_rfl) (rtokens_c (h.text) w2) ?_
                        rintro _ w129 ⟨v132, rfl, m130⟩
                        refine ⟨_, rfl, ?_⟩
                        have hM131 := Mem.join hM5 m130
                        refine GoS.run [1, 7, 145] [.n, .n, .n, .n, .n, .n, .n, .n, .n, .n, .n] _ [.inRegion (cops (csub (cd Try.f24) [1,1,1,1,1,1,0,1,0,1,1,1,1,1,1,1,1,1,0,1,0])) [3,4,5,6,7,8,9,10,11,12,13,14,15,16], .code (csub (cd Try.f24) [1,1,1,1,1,1,0,1,0,1,1,1,1,1,1,1,1,1,0,1,1]), .inBlock 0, .code (csub (cd Try.f24) [1,1,1,1,1,1,1])] [(1, pq b1), (7, v132), (145, .bool ((tokE (h.text)) == 0))] w129 (by kernel_rfl) .nil ?_
                        refine GoS.fork 145 ((tokE (h.text)) == 0) (by kernel_rfl) (fun h133 => ?_) (fun h133 => ?_)
                        ·
                          have h133p : (tokE (h.text)) = 0 := eq_of_beq h133
                          have o134 : (Builtin.len_ #[43] 3 #[v132]).run Try.prog w129 = .ok (.int .i64 (((List.length (tokL (h.text))) : Nat) : Int)) w129 := f_slen sT43 (hM131.rd 0 rfl) 3 _
                          refine GoS.run [1, 7, 150] [.n, .h (.int .i64 (((List.length (tokL (h.text))) : Nat) : Int)), .n, .n, .n] _ [.inRegion (cops (csub (cd Try.f24) [1,1,1,1,1,1,0,1,0,1,1,1,1,1,1,1,1,1,0,1,0])) [8,9,10,11,12,13,14,15,16], .code (csub (cd Try.f24) [1,1,1,1,1,1,0,1,0,1,1,1,1,1,1,1,1,1,0,1,1]), .inBlock 0, .code (csub (cd Try.f24) [1,1,1,1,1,1,1])] [(1, pq b1), (7, v132), (150, .bool (decide ((((List.length (tokL (h.text))) : Nat) : Int) ≥ 1)))] w129 (by kernel_rfl) (.cons o134 .nil) ?_
                          refine GoS.fork 150 (decide ((((List.length (tokL (h.text))) : Nat) : Int) ≥ 1)) (by kernel_rfl) (fun h135 => ?_) (fun h135 => ?_)
                          ·
                            have h135p : (((List.length (tokL (h.text))) : Nat) : Int) ≥ 1 := of_decide_eq_true h135
                            have o136 : (Builtin.len_ #[43] 3 #[v132]).run Try.prog w129 = .ok (.int .i64 (((List.length (tokL (h.text))) : Nat) : Int)) w129 := f_slen sT43 (hM131.rd 0 rfl) 3 _
                            have hM137 : Mem [] w w129 [⟨25, 8, (obj b1), 1, (qR h v)⟩] := hM131.sub (cn (cc (List.Sublist.refl _)))
                            refine GoS.run [1, 155] [.n, .h (.int .i64 (((List.length (tokL (h.text))) : Nat) : Int)), .n, .n, .n] _ [.inRegion (cops (csub (cd Try.f24) [1,1,1,1,1,1,0,1,0,1,1,1,1,1,1,1,1,1,0,1,0])) [13,14,15,16], .code (csub (cd Try.f24) [1,1,1,1,1,1,0,1,0,1,1,1,1,1,1,1,1,1,0,1,1]), .inBlock 0, .code (csub (cd Try.f24) [1,1,1,1,1,1,1])] [(1, pq b1), (155, .bool (decide ((((List.length (tokL (h.text))) : Nat) : Int) ≤ 16)))] w129 (by kernel_rfl) (.cons o136 .nil) ?_
                            refine GoS.fork 155 (decide ((((List.length (tokL (h.text))) : Nat) : Int) ≤ 16)) (by kernel_rfl) (fun h138 => ?_) (fun h138 => ?_)
                            ·
                              have h138p : (((List.length (tokL (h.text))) : Nat) : Int) ≤ 16 := of_decide_eq_true h138
                              have o139 : (Instr.loadAt 25 (pq b1)).run Try.prog w129 = .ok ((qA h v)) w129 := c_loads (ys := (qR h v)) aE25 (hM137.rd 0 rfl) (cel_obj b1 0) rfl (by intro j u hj; match j, hj with | 0, hj => exact hj | 1, hj => exact hj | 2, hj => exact hj | 3, hj => exact hj | 4, hj => exact hj | 5, hj => exact hj | 6, hj => exact hj | 7, hj => exact hj | n + 8, hj => cases hj)
                              have hM140 : Mem [] w w129 [] := hM137.sub (cn (List.Sublist.refl _))
                              refine GoS.run [155, 156] [.h ((qA h v))] _ [.inRegion (cops (csub (cd Try.f24) [1,1,1,1,1,1,0,1,0,1,1,1,1,1,1,1,1,1,0,1,0])) [14,15,16], .code (csub (cd Try.f24) [1,1,1,1,1,1,0,1,0,1,1,1,1,1,1,1,1,1,0,1,1]), .inBlock 0, .code (csub (cd Try.f24) [1,1,1,1,1,1,1])] [(155, .bool true), (156, (qA h v))] w129 (by kernel_rfl) (.cons o139 .nil) ?_
                              refine GoS.call [155] 28 #[(qA h v), .bool true, .bool false, .bool false] (some 157) [.inRegion (cops (csub (cd Try.f24) [1,1,1,1,1,1,0,1,0,1,1,1,1,1,1,1,1,1,0,1,0])) [15,16], .code (csub (cd Try.f24) [1,1,1,1,1,1,0,1,0,1,1,1,1,1,1,1,1,1,0,1,1]), .inBlock 0, .code (csub (cd Try.f24) [1,1,1,1,1,1,1])] [(155, .bool true)] (by kernel_rfl) (noth_c (w := w129) h v true false false) ?_
                              rintro _ w141 ⟨rfl, m142⟩
                              refine ⟨_, rfl, ?_⟩
                              have hM143 : Mem [] w w141 [] := Mem.join (R := []) hM140 m142
                              refine GoS.run [2] [.n, .n] _ [.inRegion (cops (csub (cd Try.f24) [1,1,1,1,1,1,0,1,0,1,1,1,1,1,1,1,1,1,0,1,0])) [], .code (csub (cd Try.f24) [1,1,1,1,1,1,0,1,0,1,1,1,1,1,1,1,1,1,0,1,1]), .inBlock 0, .code (csub (cd Try.f24) [1,1,1,1,1,1,1])] [(2, .bool (nothP h true false false))] w141 (by kernel_rfl) .nil ?_
                              refine GoS.run [2] [.n] _ [.code (csub (cd Try.f24) [1,1,1,1,1,1,0,1,0,1,1,1,1,1,1,1,1,1,0,1,1]), .inBlock 0, .code (csub (cd Try.f24) [1,1,1,1,1,1,1])] [(2, .bool (nothP h true false false))] w141 (by kernel_rfl) .nil ?_
                              refine GoS.ret (fn := Try.f24) (v := (.bool (nothP h true false false))) Try.func24 (by kernel_rfl) ?_
                              rw [hR]
                              exact ⟨ret_bool (by rw [node_5 (by omega) (by omega) (by have z := h64; simpa using z), (show decide (tokE h.text = 0 ∧ 1 ≤ (tokL h.text).length ∧ (tokL h.text).length ≤ 16) = true from decide_eq_true (by omega))]; rfl), hM143.sub (List.nil_sublist _)⟩
                            ·
                              have h138p : ¬ ((((List.length (tokL (h.text))) : Nat) : Int) ≤ 16) := of_decide_eq_false h138
                              have hM144 : Mem [] w w129 [] := hM137.sub (cn (List.Sublist.refl _))
                              refine GoS.run [2] [.n, .n, .n, .n] _ [.inRegion (cops (csub (cd Try.f24) [1,1,1,1,1,1,0,1,0,1,1,1,1,1,1,1,1,1,0,1,0])) [], .code (csub (cd Try.f24) [1,1,1,1,1,1,0,1,0,1,1,1,1,1,1,1,1,1,0,1,1]), .inBlock 0, .code (csub (cd Try.f24) [1,1,1,1,1,1,1])] [(2, .bool false)] w129 (by kernel_rfl) .nil ?_
                              refine GoS.run [2] [.n] _ [.code (csub (cd Try.f24) [1,1,1,1,1,1,0,1,0,1,1,1,1,1,1,1,1,1,0,1,1]), .inBlock 0, .code (csub (cd Try.f24) [1,1,1,1,1,1,1])] [(2, .bool false)] w129 (by kernel_rfl) .nil ?_
                              refine GoS.ret (fn := Try.f24) (v := (.bool false)) Try.func24 (by kernel_rfl) ?_
                              rw [hR]
                              exact ⟨ret_bool (by rw [node_5 (by omega) (by omega) (by have z := h64; simpa using z), (show decide (tokE h.text = 0 ∧ 1 ≤ (tokL h.text).length ∧ (tokL h.text).length ≤ 16) = false from decide_eq_false (by omega))]; rfl), hM144.sub (List.nil_sublist _)⟩
                          ·
                            have h135p : ¬ ((((List.length (tokL (h.text))) : Nat) : Int) ≥ 1) := of_decide_eq_false h135
                            have hM145 : Mem [] w w129 [] := hM131.sub (cn (cn (List.Sublist.refl _)))
                            refine GoS.run [2] [.n, .n, .n, .n, .n, .n, .n, .n, .n] _ [.inRegion (cops (csub (cd Try.f24) [1,1,1,1,1,1,0,1,0,1,1,1,1,1,1,1,1,1,0,1,0])) [], .code (csub (cd Try.f24) [1,1,1,1,1,1,0,1,0,1,1,1,1,1,1,1,1,1,0,1,1]), .inBlock 0, .code (csub (cd Try.f24) [1,1,1,1,1,1,1])] [(2, .bool false)] w129 (by kernel_rfl) .nil ?_
                            refine GoS.run [2] [.n] _ [.code (csub (cd Try.f24) [1,1,1,1,1,1,0,1,0,1,1,1,1,1,1,1,1,1,0,1,1]), .inBlock 0, .code (csub (cd Try.f24) [1,1,1,1,1,1,1])] [(2, .bool false)] w129 (by kernel_rfl) .nil ?_
                            refine GoS.ret (fn := Try.f24) (v := (.bool false)) Try.func24 (by kernel_rfl) ?_
                            rw [hR]
                            exact ⟨ret_bool (by rw [node_5 (by omega) (by omega) (by have z := h64; simpa using z), (show decide (tokE h.text = 0 ∧ 1 ≤ (tokL h.text).length ∧ (tokL h.text).length ≤ 16) = false from decide_eq_false (by omega))]; rfl), hM145.sub (List.nil_sublist _)⟩
                        ·
                          have h133p : ¬ ((tokE (h.text)) = 0) := p_ne h133
                          have hM146 : Mem [] w w129 [] := hM131.sub (cn (cn (List.Sublist.refl _)))
                          refine GoS.run [2] [.n, .n, .n, .n, .n, .n, .n, .n, .n, .n, .n, .n, .n, .n] _ [.inRegion (cops (csub (cd Try.f24) [1,1,1,1,1,1,0,1,0,1,1,1,1,1,1,1,1,1,0,1,0])) [], .code (csub (cd Try.f24) [1,1,1,1,1,1,0,1,0,1,1,1,1,1,1,1,1,1,0,1,1]), .inBlock 0, .code (csub (cd Try.f24) [1,1,1,1,1,1,1])] [(2, .bool false)] w129 (by kernel_rfl) .nil ?_
                          refine GoS.run [2] [.n] _ [.code (csub (cd Try.f24) [1,1,1,1,1,1,0,1,0,1,1,1,1,1,1,1,1,1,0,1,1]), .inBlock 0, .code (csub (cd Try.f24) [1,1,1,1,1,1,1])] [(2, .bool false)] w129 (by kernel_rfl) .nil ?_
                          refine GoS.ret (fn := Try.f24) (v := (.bool false)) Try.func24 (by kernel_rfl) ?_
                          rw [hR]
                          exact ⟨ret_bool (by rw [node_5 (by omega) (by omega) (by have z := h64; simpa using z), (show decide (tokE h.text = 0 ∧ 1 ≤ (tokL h.text).length ∧ (tokL h.text).length ≤ 16) = false from decide_eq_false (by omega))]; rfl), hM146.sub (List.nil_sublist _)⟩
                      ·
                        have h127p : ¬ (h.op = 5) := p_ne h127
                        refine GoS.run [1, 159] [.n, .n, .n, .n, .n] _ [.code (csub (cd Try.f24) [1,1,1,1,1,1,0,1,0,1,1,1,1,1,1,1,1,1,1,1]), .inBlock 0, .code (csub (cd Try.f24) [1,1,1,1,1,1,1])] [(1, pq b1), (159, .bool (h.op == 6))] w2 (by kernel_rfl) .nil ?_
                        refine GoS.cond (h.op == 6) [.code (csub (cd Try.f24) [1,1,1,1,1,1,0,1,0,1,1,1,1,1,1,1,1,1,1,1,0]), .inBlock 0, .code (csub (cd Try.f24) [1,1,1,1,1,1,1])] [.code (csub (cd Try.f24) [1,1,1,1,1,1,0,1,0,1,1,1,1,1,1,1,1,1,1,1,1]), .inBlock 0, .code (csub (cd Try.f24) [1,1,1,1,1,1,1])] (by kernel_rfl) (fun h147 => ?_) (fun h147 => ?_)
                        ·
                          have h147p : h.op = 6 := eq_of_beq h147
                          have o148 : (Instr.loadAt 25 (pq b1)).run Try.prog w2 = .ok ((qA h v)) w2 := c_loads (ys := (qR h v)) aE25 (hM5.rd 0 rfl) (cel_obj b1 0) rfl (by intro j u hj; match j, hj with | 0, hj => exact hj | 1, hj => exact hj | 2, hj => exact hj | 3, hj => exact hj | 4, hj => exact hj | 5, hj => exact hj | 6, hj => exact hj | 7, hj => exact hj | n + 8, hj => cases hj)
                          have hM149 : Mem [] w w2 [] := hM5.sub (cn (List.Sublist.refl _))
                          refine GoS.run [161] [.n, .n, .h ((qA h v))] _ [.inRegion (cops (csub (cd Try.f24) [1,1,1,1,1,1,0,1,0,1,1,1,1,1,1,1,1,1,1,1,0,0])) [1,2], .code (csub (cd Try.f24) [1,1,1,1,1,1,0,1,0,1,1,1,1,1,1,1,1,1,1,1,0,1]), .inBlock 0, .code (csub (cd Try.f24) [1,1,1,1,1,1,1])] [(161, (qA h v))] w2 (by kernel_rfl) (.cons o148 .nil) ?_
                          refine GoS.call [] 28 #[(qA h v), .bool false, .bool false, .bool true] (some 162) [.inRegion (cops (csub (cd Try.f24) [1,1,1,1,1,1,0,1,0,1,1,1,1,1,1,1,1,1,1,1,0,0])) [2], .code (csub (cd Try.f24) [1,1,1,1,1,1,0,1,0,1,1,1,1,1,1,1,1,1,1,1,0,1]), .inBlock 0, .code (csub (cd Try.f24) [1,1,1,1,1,1,1])] [] (by kernel_rfl) (noth_c (w := w2) h v false false true) ?_
                          rintro _ w150 ⟨rfl, m151⟩
                          refine ⟨_, rfl, ?_⟩
                          have hM152 : Mem [] w w150 [] := Mem.join (R := []) hM149 m151
                          refine GoS.run [2] [.n, .n] _ [.code (csub (cd Try.f24) [1,1,1,1,1,1,0,1,0,1,1,1,1,1,1,1,1,1,1,1,0,1]), .inBlock 0, .code (csub (cd Try.f24) [1,1,1,1,1,1,1])] [(2, .bool (nothP h false false true))] w150 (by kernel_rfl) .nil ?_
                          refine GoS.ret (fn := Try.f24) (v := (.bool (nothP h false false true))) Try.func24 (by kernel_rfl) ?_
                          rw [hR]
                          exact ⟨ret_bool (node_range (by omega) (by have z := h64; simpa using z) (by omega)).symm, hM152.sub (List.nil_sublist _)⟩
                        ·
                          have h147p : ¬ (h.op = 6) := p_ne h147
                          have hM153 : Mem [] w w2 [] := hM5.sub (cn (List.Sublist.refl _))
                          refine GoS.run [] [.n] _ [.inBlock 0, .code (csub (cd Try.f24) [1,1,1,1,1,1,1])] [] w2 (by kernel_rfl) .nil ?_
                          refine GoS.run [2] [.n, .n, .n, .n, .n] _ [.code (csub (cd Try.f24) [1,1,1,1,1,1,1,1])] [(2, .bool false)] w2 (by kernel_rfl) .nil ?_
                          refine GoS.ret (fn := Try.f24) (v := (.bool false)) Try.func24 (by kernel_rfl) ?_
                          rw [hR]
                          exact ⟨ret_bool (node_else (by omega)).symm, hM153.sub (List.nil_sublist _)⟩


end Go.Proofs.Ytnhplkkbpmijdaa
