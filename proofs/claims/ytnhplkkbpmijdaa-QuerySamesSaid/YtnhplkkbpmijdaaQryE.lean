/-
  The walk of words.
-/
import Derived.Test.YtnhplkkbpmijdaaQryD
namespace Go.Proofs.Ytnhplkkbpmijdaa
open Go Go.Gw Go.UtfP Go.TokP Go.QryP Go.RowKit
set_option linter.unusedVariables false
set_option linter.unusedSimpArgs false


set_option maxHeartbeats 2000000 in
theorem words_c {w : World} (q : Q) (h : Hd) (he : h = q.h) (v : Value) (hq : RdQ w q v) (hb : bulkQ q ≤ 1048576) :
    Calls Try.prog 23 #[(qA h v)] w (fun e w' => e = .returned (.bool (wordsP h)) ∧ Mem [] w w' []) := by
  obtain ⟨L, hr, hl, hh, hs⟩ := hq.inv
  have hbl : bulkL q.l + q.h.field.length + q.h.text.length + 1 = bulkQ q := by cases q; rw [bulkQ_mk]; rfl
  have hln := bulk_len q.l
  have lp1 := @let_pos h.text []
  have lp2 : letP h.text [] = 0 → (letL h.text []).length = (foldL h.text).length := fun z => by rw [(lp1 z).2.2]
  have lp3 := lp1
  clear lp1 lp3
  obtain ⟨R, hR⟩ : ∃ R : Ending → World → Prop, R = (fun e w' => e = .returned (.bool (wordsP h)) ∧ Mem [] w w' []) := ⟨_, rfl⟩
  rw [← hR]
  refine GoS.enter (n := 83) Try.func23 (by kernel_rfl) rfl [(0, (qA h v))] (by kernel_rfl) (by kernel_rfl) ?_
  have hM0 := Mem.start w
  obtain ⟨b1, w2, hr3, hM4⟩ := m_box (T := 25) (k := 8) (u := (qA h v)) rfl rfl hM0
  have hM5 : Mem [] w w2 [⟨25, 8, (obj b1), 1, (qR h v)⟩] := hM4
  have o6 : (Instr.box 25 ((qA h v))).run Try.prog w = .ok (pq b1) w2 := hr3
  have o7 : (Instr.loadAt 3 (pq b1)).run Try.prog w2 = .ok (.int .i64 (h.op)) w2 := c_load pE3 (hM5.rd 0 rfl) (cel_obj b1 0) rfl
  refine GoS.run [1, 12, 13] [.n, .n, .u (pq b1) (w2), .n, .n, .n, .n, .n, .n, .h (.int .i64 (h.op)), .n, .n, .n, .n, .n, .n, .n] _ [.code (csub (cd Try.f23) [1,0,1,0,1]), .inBlock 0, .code (csub (cd Try.f23) [1,1])] [(1, pq b1), (12, .int .i64 (h.op)), (13, .bool (h.op == 1))] w2 (by kernel_rfl) (.cons o6 (.cons o7 .nil)) ?_
  refine GoS.cond (h.op == 1) [.code (csub (cd Try.f23) [1,0,1,0,1,0]), .inBlock 0, .code (csub (cd Try.f23) [1,1])] [.code (csub (cd Try.f23) [1,0,1,0,1,1]), .inBlock 0, .code (csub (cd Try.f23) [1,1])] (by kernel_rfl) (fun h8 => ?_) (fun h8 => ?_)
  ·
    have h8p : h.op = 1 := eq_of_beq h8
    have o9 : (Instr.loadAt 9 (.pointer (some (⟨b1, 2, none⟩)))).run Try.prog w2 = .ok (.string (sb (h.text))) w2 := c_load pE9 (hM5.rd 0 rfl) (cel_obj b1 2) rfl
    have hM10 : Mem [] w w2 [] := hM5.sub (cn (List.Sublist.refl _))
    refine GoS.run [17] [.n, .n, .n, .h (.string (sb (h.text)))] _ [.inRegion (cops (csub (cd Try.f23) [1,0,1,0,1,0,0])) [2,3,4,5,6,7], .code (csub (cd Try.f23) [1,0,1,0,1,0,1]), .inBlock 0, .code (csub (cd Try.f23) [1,1])] [(17, .string (sb (h.text)))] w2 (by kernel_rfl) (.cons o9 .nil) ?_
    refine GoS.call [] 25 #[.string (sb (h.text))] (some 18) [.inRegion (cops (csub (cd Try.f23) [1,0,1,0,1,0,0])) [3,4,5,6,7], .code (csub (cd Try.f23) [1,0,1,0,1,0,1]), .inBlock 0, .code (csub (cd Try.f23) [1,1])] [] (by kernel_rfl) (term_c (h.text) w2) ?_
    rintro _ w11 ⟨rfl, m12⟩
    refine ⟨_, rfl, ?_⟩
    have hM13 := Mem.join hM10 m12
    refine GoS.run [2] [.n, .n, .n, .n, .n, .n, .n, .n, .n, .n, .n, .n] _ [.code (csub (cd Try.f23) [1,0,1,0,1,0,1,1]), .inBlock 0, .code (csub (cd Try.f23) [1,1])] [(2, .bool ((termE (h.text)) == 0))] w11 (by kernel_rfl) .nil ?_
    refine GoS.ret (fn := Try.f23) (v := (.bool ((termE (h.text)) == 0))) Try.func23 (by kernel_rfl) ?_
    rw [hR]
    exact ⟨ret_bool (by by_cases g : (termE (h.text)) = 0; exact (beq_iff_eq.2 g).trans (decide_eq_true (by unfold WP; omega)).symm; exact (beq_eq_false_iff_ne.2 g).trans (decide_eq_false (by unfold WP; omega)).symm), hM13.sub (List.nil_sublist _)⟩
  ·
    have h8p : ¬ (h.op = 1) := p_ne h8
    refine GoS.run [1, 12, 23] [.n, .n, .n, .n, .n] _ [.code (csub (cd Try.f23) [1,0,1,0,1,1,1]), .inBlock 0, .code (csub (cd Try.f23) [1,1])] [(1, pq b1), (12, .int .i64 (h.op)), (23, .bool (h.op == 5))] w2 (by kernel_rfl) .nil ?_
    refine GoS.cond (h.op == 5) [.code (csub (cd Try.f23) [1,0,1,0,1,1,1,0]), .inBlock 0, .code (csub (cd Try.f23) [1,1])] [.code (csub (cd Try.f23) [1,0,1,0,1,1,1,1]), .inBlock 0, .code (csub (cd Try.f23) [1,1])] (by kernel_rfl) (fun h14 => ?_) (fun h14 => ?_)
    ·
      have h14p : h.op = 5 := eq_of_beq h14
      have o15 : (Instr.loadAt 9 (.pointer (some (⟨b1, 2, none⟩)))).run Try.prog w2 = .ok (.string (sb (h.text))) w2 := c_load pE9 (hM5.rd 0 rfl) (cel_obj b1 2) rfl
      have hM16 : Mem [] w w2 [] := hM5.sub (cn (List.Sublist.refl _))
      refine GoS.run [27] [.n, .n, .n, .h (.string (sb (h.text)))] _ [.inRegion (cops (csub (cd Try.f23) [1,0,1,0,1,1,1,0,0])) [2,3,4,5,6,7], .code (csub (cd Try.f23) [1,0,1,0,1,1,1,0,1]), .inBlock 0, .code (csub (cd Try.f23) [1,1])] [(27, .string (sb (h.text)))] w2 (by kernel_rfl) (.cons o15 .nil) ?_
      refine GoS.call [] 26 #[.string (sb (h.text))] (some 28) [.inRegion (cops (csub (cd Try.f23) [1,0,1,0,1,1,1,0,0])) [3,4,5,6,7], .code (csub (cd Try.f23) [1,0,1,0,1,1,1,0,1]), .inBlock 0, .code (csub (cd Try.f23) [1,1])] [] (by kernel_rfl) (tokens_c (h.text) w2) ?_
      rintro _ w17 ⟨v20, rfl, m18⟩
      refine ⟨_, rfl, ?_⟩
      have hM19 := Mem.join hM16 m18
      refine GoS.run [5, 33] [.n, .n, .n, .n, .n, .n, .n, .n, .n, .n, .n] _ [.inRegion (cops (csub (cd Try.f23) [1,0,1,0,1,1,1,0,1,0])) [3,4,5,6,7,8,9,10,11,12], .code (csub (cd Try.f23) [1,0,1,0,1,1,1,0,1,1]), .inBlock 0, .code (csub (cd Try.f23) [1,1])] [(5, v20), (33, .bool ((tokE (h.text)) == 0))] w17 (by kernel_rfl) .nil ?_
      refine GoS.fork 33 ((tokE (h.text)) == 0) (by kernel_rfl) (fun h21 => ?_) (fun h21 => ?_)
      ·
        have h21p : (tokE (h.text)) = 0 := eq_of_beq h21
        have o22 : (Builtin.len_ #[43] 3 #[v20]).run Try.prog w17 = .ok (.int .i64 (((List.length (tokL (h.text))) : Nat) : Int)) w17 := f_slen sT43 (hM19.rd 0 rfl) 3 _
        refine GoS.run [5, 38] [.n, .h (.int .i64 (((List.length (tokL (h.text))) : Nat) : Int)), .n, .n, .n] _ [.inRegion (cops (csub (cd Try.f23) [1,0,1,0,1,1,1,0,1,0])) [8,9,10,11,12], .code (csub (cd Try.f23) [1,0,1,0,1,1,1,0,1,1]), .inBlock 0, .code (csub (cd Try.f23) [1,1])] [(5, v20), (38, .bool (decide ((((List.length (tokL (h.text))) : Nat) : Int) > 0)))] w17 (by kernel_rfl) (.cons o22 .nil) ?_
        refine GoS.fork 38 (decide ((((List.length (tokL (h.text))) : Nat) : Int) > 0)) (by kernel_rfl) (fun h23 => ?_) (fun h23 => ?_)
        ·
          have h23p : (((List.length (tokL (h.text))) : Nat) : Int) > 0 := of_decide_eq_true h23
          have o24 : (Builtin.len_ #[43] 3 #[v20]).run Try.prog w17 = .ok (.int .i64 (((List.length (tokL (h.text))) : Nat) : Int)) w17 := f_slen sT43 (hM19.rd 0 rfl) 3 _
          have hM25 : Mem [] w w17 [] := hM19.sub (cn (List.Sublist.refl _))
          refine GoS.run [2] [.n, .h (.int .i64 (((List.length (tokL (h.text))) : Nat) : Int)), .n, .n, .n] _ [.inRegion (cops (csub (cd Try.f23) [1,0,1,0,1,1,1,0,1,0])) [], .code (csub (cd Try.f23) [1,0,1,0,1,1,1,0,1,1]), .inBlock 0, .code (csub (cd Try.f23) [1,1])] [(2, .bool (decide ((((List.length (tokL (h.text))) : Nat) : Int) ≤ 16)))] w17 (by kernel_rfl) (.cons o24 .nil) ?_
          refine GoS.run [2] [.n] _ [.code (csub (cd Try.f23) [1,0,1,0,1,1,1,0,1,1]), .inBlock 0, .code (csub (cd Try.f23) [1,1])] [(2, .bool (decide ((((List.length (tokL (h.text))) : Nat) : Int) ≤ 16)))] w17 (by kernel_rfl) .nil ?_
          refine GoS.ret (fn := Try.f23) (v := (.bool (decide ((((List.length (tokL (h.text))) : Nat) : Int) ≤ 16)))) Try.func23 (by kernel_rfl) ?_
          rw [hR]
          exact ⟨ret_bool (by by_cases g : (((List.length (tokL (h.text))) : Nat) : Int) ≤ 16; exact (decide_eq_true g).trans (decide_eq_true (by unfold WP; omega)).symm; exact (decide_eq_false g).trans (decide_eq_false (by unfold WP; omega)).symm), hM25.sub (List.nil_sublist _)⟩
        ·
          have h23p : ¬ ((((List.length (tokL (h.text))) : Nat) : Int) > 0) := of_decide_eq_false h23
          have hM26 : Mem [] w w17 [] := hM19.sub (cn (List.Sublist.refl _))
          refine GoS.run [2] [.n, .n, .n, .n, .n] _ [.inRegion (cops (csub (cd Try.f23) [1,0,1,0,1,1,1,0,1,0])) [], .code (csub (cd Try.f23) [1,0,1,0,1,1,1,0,1,1]), .inBlock 0, .code (csub (cd Try.f23) [1,1])] [(2, .bool false)] w17 (by kernel_rfl) .nil ?_
          refine GoS.run [2] [.n] _ [.code (csub (cd Try.f23) [1,0,1,0,1,1,1,0,1,1]), .inBlock 0, .code (csub (cd Try.f23) [1,1])] [(2, .bool false)] w17 (by kernel_rfl) .nil ?_
          refine GoS.ret (fn := Try.f23) (v := (.bool false)) Try.func23 (by kernel_rfl) ?_
          rw [hR]
          exact ⟨ret_bool (decide_eq_false (by unfold WP; omega)).symm, hM26.sub (List.nil_sublist _)⟩
      ·
        have h21p : ¬ ((tokE (h.text)) = 0) := p_ne h21
        have hM27 : Mem [] w w17 [] := hM19.sub (cn (List.Sublist.refl _))
        refine GoS.run [2] [.n, .n, .n, .n, .n, .n, .n, .n, .n, .n] _ [.inRegion (cops (csub (cd Try.f23) [1,0,1,0,1,1,1,0,1,0])) [], .code (csub (cd Try.f23) [1,0,1,0,1,1,1,0,1,1]), .inBlock 0, .code (csub (cd Try.f23) [1,1])] [(2, .bool false)] w17 (by kernel_rfl) .nil ?_
        refine GoS.run [2] [.n] _ [.code (csub (cd Try.f23) [1,0,1,0,1,1,1,0,1,1]), .inBlock 0, .code (csub (cd Try.f23) [1,1])] [(2, .bool false)] w17 (by kernel_rfl) .nil ?_
        refine GoS.ret (fn := Try.f23) (v := (.bool false)) Try.func23 (by kernel_rfl) ?_
        rw [hR]
        exact ⟨ret_bool (decide_eq_false (by unfold WP; omega)).symm, hM27.sub (List.nil_sublist _)⟩
    ·
      have h14p : ¬ (h.op = 5) := p_ne h14
      refine GoS.run [1, 43] [.n, .n, .n, .n, .n] _ [.code (csub (cd Try.f23) [1,0,1,0,1,1,1,1,1]), .inBlock 0, .code (csub (cd Try.f23) [1,1])] [(1, pq b1), (43, .bool (h.op == 3))] w2 (by kernel_rfl) .nil ?_
      refine GoS.cond (h.op == 3) [.code (csub (cd Try.f23) [1,0,1,0,1,1,1,1,1,0]), .inBlock 0, .code (csub (cd Try.f23) [1,1])] [.code (csub (cd Try.f23) [1,0,1,0,1,1,1,1,1,1]), .inBlock 0, .code (csub (cd Try.f23) [1,1])] (by kernel_rfl) (fun h28 => ?_) (fun h28 => ?_)
      ·
        have h28p : h.op = 3 := eq_of_beq h28
        have o29 : (Instr.loadAt 9 (.pointer (some (⟨b1, 2, none⟩)))).run Try.prog w2 = .ok (.string (sb (h.text))) w2 := c_load pE9 (hM5.rd 0 rfl) (cel_obj b1 2) rfl
        have hM30 : Mem [] w w2 [] := hM5.sub (cn (List.Sublist.refl _))
        refine GoS.run [47] [.n, .n, .n, .h (.string (sb (h.text)))] _ [.inRegion (cops (csub (cd Try.f23) [1,0,1,0,1,1,1,1,1,0,0])) [2,3,4,5,6,7], .code (csub (cd Try.f23) [1,0,1,0,1,1,1,1,1,0,1]), .inBlock 0, .code (csub (cd Try.f23) [1,1])] [(47, .string (sb (h.text)))] w2 (by kernel_rfl) (.cons o29 .nil) ?_
        refine GoS.call [] 27 #[.string (sb (h.text)), .string (sb ([42, 63] : List UInt8))] (some 48) [.inRegion (cops (csub (cd Try.f23) [1,0,1,0,1,1,1,1,1,0,0])) [3,4,5,6,7], .code (csub (cd Try.f23) [1,0,1,0,1,1,1,1,1,0,1]), .inBlock 0, .code (csub (cd Try.f23) [1,1])] [] (by kernel_rfl) (let_c (h.text) ([42, 63] : List UInt8) (by rw [he]; omega) (by decide) w2) ?_
        rintro _ w31 ⟨v34, rfl, m32⟩
        refine ⟨_, rfl, ?_⟩
        have hM33 := Mem.join hM30 m32
        have hM35 : Mem [] w w31 [] := hM33.sub (cn (List.Sublist.refl _))
        refine GoS.run [2] [.n, .n, .n, .n, .n, .n, .n, .n, .n, .n, .n, .n] _ [.code (csub (cd Try.f23) [1,0,1,0,1,1,1,1,1,0,1,1]), .inBlock 0, .code (csub (cd Try.f23) [1,1])] [(2, .bool ((letP (h.text) ([42, 63] : List UInt8)) == 0))] w31 (by kernel_rfl) .nil ?_
        refine GoS.ret (fn := Try.f23) (v := (.bool ((letP (h.text) ([42, 63] : List UInt8)) == 0))) Try.func23 (by kernel_rfl) ?_
        rw [hR]
        exact ⟨ret_bool (by by_cases g : (letP (h.text) ([42, 63] : List UInt8)) = 0; exact (beq_iff_eq.2 g).trans (decide_eq_true (by unfold WP; omega)).symm; exact (beq_eq_false_iff_ne.2 g).trans (decide_eq_false (by unfold WP; omega)).symm), hM35.sub (List.nil_sublist _)⟩
      ·
        have h28p : ¬ (h.op = 3) := p_ne h28
        refine GoS.run [1] [.n] _ [.inBlock 0, .code (csub (cd Try.f23) [1,1])] [(1, pq b1)] w2 (by kernel_rfl) .nil ?_
        have o36 : (Instr.loadAt 9 (.pointer (some (⟨b1, 2, none⟩)))).run Try.prog w2 = .ok (.string (sb (h.text))) w2 := c_load pE9 (hM5.rd 0 rfl) (cel_obj b1 2) rfl
        refine GoS.run [1, 55] [.n, .n, .n, .n, .h (.string (sb (h.text)))] _ [.inRegion (cops (csub (cd Try.f23) [1,1,0])) [2,3,4,5,6,7], .code (csub (cd Try.f23) [1,1,1])] [(1, pq b1), (55, .string (sb (h.text)))] w2 (by kernel_rfl) (.cons o36 .nil) ?_
        refine GoS.call [1] 27 #[.string (sb (h.text)), .string (sb ([]))] (some 56) [.inRegion (cops (csub (cd Try.f23) [1,1,0])) [3,4,5,6,7], .code (csub (cd Try.f23) [1,1,1])] [(1, pq b1)] (by kernel_rfl) (let_c (h.text) ([]) (by rw [he]; omega) (by decide) w2) ?_
        rintro _ w37 ⟨v40, rfl, m38⟩
        refine ⟨_, rfl, ?_⟩
        have hM39 := Mem.join hM5 m38
        refine GoS.run [1, 9, 61] [.n, .n, .n, .n, .n, .n, .n, .n, .n, .n, .n] _ [.inRegion (cops (csub (cd Try.f23) [1,1,1,0])) [3,4,5,6,7,8,9,10,11,12,13,14,15,16,17,18,19,20,21,22,23,24], .code (csub (cd Try.f23) [1,1,1,1])] [(1, pq b1), (9, v40), (61, .bool ((letP (h.text) ([])) == 0))] w37 (by kernel_rfl) .nil ?_
        refine GoS.fork 61 ((letP (h.text) ([])) == 0) (by kernel_rfl) (fun h41 => ?_) (fun h41 => ?_)
        ·
          have h41p : (letP (h.text) ([])) = 0 := eq_of_beq h41
          have o42 : (Instr.loadAt 3 (.pointer (some (⟨b1, 3, none⟩)))).run Try.prog w37 = .ok (.int .i64 (h.edits)) w37 := c_load pE3 (hM39.rd 1 rfl) (cel_obj b1 3) rfl
          refine GoS.run [1, 9, 66] [.n, .h (.int .i64 (h.edits)), .n, .n, .n] _ [.inRegion (cops (csub (cd Try.f23) [1,1,1,0])) [8,9,10,11,12,13,14,15,16,17,18,19,20,21,22,23,24], .code (csub (cd Try.f23) [1,1,1,1])] [(1, pq b1), (9, v40), (66, .bool (decide (h.edits ≥ 0)))] w37 (by kernel_rfl) (.cons o42 .nil) ?_
          refine GoS.fork 66 (decide (h.edits ≥ 0)) (by kernel_rfl) (fun h43 => ?_) (fun h43 => ?_)
          ·
            have h43p : h.edits ≥ 0 := of_decide_eq_true h43
            have o44 : (Instr.loadAt 3 (.pointer (some (⟨b1, 3, none⟩)))).run Try.prog w37 = .ok (.int .i64 (h.edits)) w37 := c_load pE3 (hM39.rd 1 rfl) (cel_obj b1 3) rfl
            refine GoS.run [1, 9, 71] [.n, .h (.int .i64 (h.edits)), .n, .n, .n] _ [.inRegion (cops (csub (cd Try.f23) [1,1,1,0])) [13,14,15,16,17,18,19,20,21,22,23,24], .code (csub (cd Try.f23) [1,1,1,1])] [(1, pq b1), (9, v40), (71, .bool (decide (h.edits ≤ 2)))] w37 (by kernel_rfl) (.cons o44 .nil) ?_
            refine GoS.fork 71 (decide (h.edits ≤ 2)) (by kernel_rfl) (fun h45 => ?_) (fun h45 => ?_)
            ·
              have h45p : h.edits ≤ 2 := of_decide_eq_true h45
              have o46 : (Instr.loadAt 3 (.pointer (some (⟨b1, 4, none⟩)))).run Try.prog w37 = .ok (.int .i64 (h.exact)) w37 := c_load pE3 (hM39.rd 1 rfl) (cel_obj b1 4) rfl
              refine GoS.run [1, 9, 76] [.n, .h (.int .i64 (h.exact)), .n, .n, .n] _ [.inRegion (cops (csub (cd Try.f23) [1,1,1,0])) [18,19,20,21,22,23,24], .code (csub (cd Try.f23) [1,1,1,1])] [(1, pq b1), (9, v40), (76, .bool (decide (h.exact ≥ 0)))] w37 (by kernel_rfl) (.cons o46 .nil) ?_
              refine GoS.fork 76 (decide (h.exact ≥ 0)) (by kernel_rfl) (fun h47 => ?_) (fun h47 => ?_)
              ·
                have h47p : h.exact ≥ 0 := of_decide_eq_true h47
                have o48 : (Instr.loadAt 3 (.pointer (some (⟨b1, 4, none⟩)))).run Try.prog w37 = .ok (.int .i64 (h.exact)) w37 := c_load pE3 (hM39.rd 1 rfl) (cel_obj b1 4) rfl
                have o49 : (Builtin.len_ #[46] 3 #[v40]).run Try.prog w37 = .ok (.int .i64 (((List.length (letL (h.text) ([]))) : Nat) : Int)) w37 := f_slen sT46 (hM39.rd 0 rfl) 3 _
                have hM50 : Mem [] w w37 [] := hM39.sub (cn (cn (List.Sublist.refl _)))
                refine GoS.run [2] [.n, .h (.int .i64 (h.exact)), .n, .h (.int .i64 (((List.length (letL (h.text) ([]))) : Nat) : Int)), .n, .n, .n] _ [.inRegion (cops (csub (cd Try.f23) [1,1,1,0])) [], .code (csub (cd Try.f23) [1,1,1,1])] [(2, .bool (decide (h.exact ≤ (((List.length (letL (h.text) ([]))) : Nat) : Int))))] w37 (by kernel_rfl) (.cons o48 (.cons o49 .nil)) ?_
                refine GoS.run [2] [.n] _ [.code (csub (cd Try.f23) [1,1,1,1])] [(2, .bool (decide (h.exact ≤ (((List.length (letL (h.text) ([]))) : Nat) : Int))))] w37 (by kernel_rfl) .nil ?_
                refine GoS.ret (fn := Try.f23) (v := (.bool (decide (h.exact ≤ (((List.length (letL (h.text) ([]))) : Nat) : Int))))) Try.func23 (by kernel_rfl) ?_
                rw [hR]
                exact ⟨ret_bool (by by_cases g : h.exact ≤ (((List.length (letL (h.text) ([]))) : Nat) : Int); exact (decide_eq_true g).trans (decide_eq_true (by unfold WP; omega)).symm; exact (decide_eq_false g).trans (decide_eq_false (by unfold WP; omega)).symm), hM50.sub (List.nil_sublist _)⟩
              ·
                have h47p : ¬ (h.exact ≥ 0) := of_decide_eq_false h47
                have hM51 : Mem [] w w37 [] := hM39.sub (cn (cn (List.Sublist.refl _)))
                refine GoS.run [2] [.n, .n, .n, .n, .n, .n, .n] _ [.inRegion (cops (csub (cd Try.f23) [1,1,1,0])) [], .code (csub (cd Try.f23) [1,1,1,1])] [(2, .bool false)] w37 (by kernel_rfl) .nil ?_
                refine GoS.run [2] [.n] _ [.code (csub (cd Try.f23) [1,1,1,1])] [(2, .bool false)] w37 (by kernel_rfl) .nil ?_
                refine GoS.ret (fn := Try.f23) (v := (.bool false)) Try.func23 (by kernel_rfl) ?_
                rw [hR]
                exact ⟨ret_bool (decide_eq_false (by unfold WP; omega)).symm, hM51.sub (List.nil_sublist _)⟩
            ·
              have h45p : ¬ (h.edits ≤ 2) := of_decide_eq_false h45
              have hM52 : Mem [] w w37 [] := hM39.sub (cn (cn (List.Sublist.refl _)))
              refine GoS.run [2] [.n, .n, .n, .n, .n, .n, .n, .n, .n, .n, .n, .n] _ [.inRegion (cops (csub (cd Try.f23) [1,1,1,0])) [], .code (csub (cd Try.f23) [1,1,1,1])] [(2, .bool false)] w37 (by kernel_rfl) .nil ?_
              refine GoS.run [2] [.n] _ [.code (csub (cd Try.f23) [1,1,1,1])] [(2, .bool false)] w37 (by kernel_rfl) .nil ?_
              refine GoS.ret (fn := Try.f23) (v := (.bool false)) Try.func23 (by kernel_rfl) ?_
              rw [hR]
              exact ⟨ret_bool (decide_eq_false (by unfold WP; omega)).symm, hM52.sub (List.nil_sublist _)⟩
          ·
            have h43p : ¬ (h.edits ≥ 0) := of_decide_eq_false h43
            have hM53 : Mem [] w w37 [] := hM39.sub (cn (cn (List.Sublist.refl _)))
            refine GoS.run [2] [.n, .n, .n, .n, .n, .n, .n, .n, .n, .n, .n, .n, .n, .n, .n, .n, .n] _ [.inRegion (cops (csub (cd Try.f23) [1,1,1,0])) [], .code (csub (cd Try.f23) [1,1,1,1])] [(2, .bool false)] w37 (by kernel_rfl) .nil ?_
            refine GoS.run [2] [.n] _ [.code (csub (cd Try.f23) [1,1,1,1])] [(2, .bool false)] w37 (by kernel_rfl) .nil ?_
            refine GoS.ret (fn := Try.f23) (v := (.bool false)) Try.func23 (by kernel_rfl) ?_
            rw [hR]
            exact ⟨ret_bool (decide_eq_false (by unfold WP; omega)).symm, hM53.sub (List.nil_sublist _)⟩
        ·
          have h41p : ¬ ((letP (h.text) ([])) = 0) := p_ne h41
          have hM54 : Mem [] w w37 [] := hM39.sub (cn (cn (List.Sublist.refl _)))
          refine GoS.run [2] [.n, .n, .n, .n, .n, .n, .n, .n, .n, .n, .n, .n, .n, .n, .n, .n, .n, .n, .n, .n, .n, .n] _ [.inRegion (cops (csub (cd Try.f23) [1,1,1,0])) [], .code (csub (cd Try.f23) [1,1,1,1])] [(2, .bool false)] w37 (by kernel_rfl) .nil ?_
          refine GoS.run [2] [.n] _ [.code (csub (cd Try.f23) [1,1,1,1])] [(2, .bool false)] w37 (by kernel_rfl) .nil ?_
          refine GoS.ret (fn := Try.f23) (v := (.bool false)) Try.func23 (by kernel_rfl) ?_
          rw [hR]
          exact ⟨ret_bool (decide_eq_false (by unfold WP; omega)).symm, hM54.sub (List.nil_sublist _)⟩


end Go.Proofs.Ytnhplkkbpmijdaa
