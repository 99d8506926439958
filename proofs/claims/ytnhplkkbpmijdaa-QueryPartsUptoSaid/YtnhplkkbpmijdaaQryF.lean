/-
  The walk of right.
-/
import Derived.Test.YtnhplkkbpmijdaaQryE
namespace Go.Proofs.Ytnhplkkbpmijdaa
open Go Go.Gw Go.UtfP Go.TokP Go.QryP Go.RowKit
set_option linter.unusedVariables false
set_option linter.unusedSimpArgs false


set_option maxHeartbeats 8000000 in
theorem right_L (N : Nat) (ih : ∀ (q : Q), bulkQ q < N → ∀ {w : World} (h : Hd) (he : h = q.h) (v : Value) (hq : RdQ w q v) (hb : bulkQ q ≤ 1048576) , Calls Try.prog 19 #[(qA h v)] w (fun e w' => e = .returned (.bool (rightQ q)) ∧ Mem [] w w' [])) {w0 : World} (q : Q) (h : Hd) (he : h = q.h) (v : Value) (hq : RdQ w0 q v) (hb : bulkQ q ≤ 1048576) (L : List QN) (hr : Rd w0 8 v L.length (recs qnC L)) (hl : L.length = q.l.length) (hh : ∀ j, j < q.l.length → (L.getD j qz).h = (q.l.getD j q0).h) (hs : ∀ j, j < q.l.length → RdQ w0 (q.l.getD j q0) (L.getD j qz).parts) (b : Nat) (hN : bulkQ q = N) (R : Ending → World → Prop) (hR : R = (fun e w' => e = .returned (.bool (rightQ q)) ∧ Mem [] w0 w' [])) : ∀ (M_ : Nat) (i : Nat) (w : World) (hi : i ≤ L.length) (hRt : rightL (q.l.take i) = true) (hM : Mem [] w0 w [⟨25, 8, (obj b), 1, (qR h v)⟩]) (hN : L.length - i < M_), GoS Try.prog 19 R 93 [.code (csub (cd Try.f19) [1,0,1,0,0]), .inLoop (csub (cd Try.f19) [1,0,1,0,0]), .inBlock 0, .code (csub (cd Try.f19) [1,1])] [(1, pq b), (8, v), (9, .int .i64 (((List.length L) : Nat) : Int)), (10, .int .i64 ((i : Nat) : Int))] w := by
  intro M_
  induction M_ with
  | zero => intro i w hi hRt hM hN; exact absurd hN (Nat.not_lt_zero _)
  | succ M_ ih_ =>
    intro i w hi hRt hM hN
    have hbl : bulkL q.l + q.h.field.length + q.h.text.length + 1 = bulkQ q := by cases q; rw [bulkQ_mk]; rfl
    have hln := bulk_len q.l
    have hqe := he
    refine GoS.run [1, 8, 9, 10, 11] [.n, .n, .n, .n, .n] _ [.code (csub (cd Try.f19) [1,0,1,0,0,1,0]), .code (csub (cd Try.f19) [1,0,1,0,0,1,1]), .inLoop (csub (cd Try.f19) [1,0,1,0,0]), .inBlock 0, .code (csub (cd Try.f19) [1,1])] [(1, pq b), (8, v), (9, .int .i64 (((List.length L) : Nat) : Int)), (10, .int .i64 ((i : Nat) : Int)), (11, .bool (decide (((i : Nat) : Int) < (((List.length L) : Nat) : Int))))] w (by kernel_rfl) .nil ?_
    refine GoS.cond (decide (((i : Nat) : Int) < (((List.length L) : Nat) : Int))) [.code (csub (cd Try.f19) [1,0,1,0,0,1,0,0]), .code (csub (cd Try.f19) [1,0,1,0,0,1,1]), .inLoop (csub (cd Try.f19) [1,0,1,0,0]), .inBlock 0, .code (csub (cd Try.f19) [1,1])] [.code (csub (cd Try.f19) [1,0,1,0,0,1,0,1]), .code (csub (cd Try.f19) [1,0,1,0,0,1,1]), .inLoop (csub (cd Try.f19) [1,0,1,0,0]), .inBlock 0, .code (csub (cd Try.f19) [1,1])] (by kernel_rfl) (fun h1 => ?_) (fun h1 => ?_)
    ·
      have h1p : ((i : Nat) : Int) < (((List.length L) : Nat) : Int) := of_decide_eq_true h1
      refine GoS.run [1, 8, 9, 10] [.n] _ [.code (csub (cd Try.f19) [1,0,1,0,0,1,1]), .inLoop (csub (cd Try.f19) [1,0,1,0,0]), .inBlock 0, .code (csub (cd Try.f19) [1,1])] [(1, pq b), (8, v), (9, .int .i64 (((List.length L) : Nat) : Int)), (10, .int .i64 ((i : Nat) : Int))] w (by kernel_rfl) .nil ?_
      obtain ⟨p464, hp465, hq466⟩ := rd_at (i := ((i : Nat) : Int)) sT23 (hr.kept0 hM.kept) i (by omega) (by first | omega | (dsimp only; omega))
      have o476 : (Instr.indexAt 23 (v) (.int .i64 ((i : Nat) : Int))).run Try.prog w = .ok (.pointer (some p464)) w := hq466 _ _
      have o477 : (Instr.loadAt 25 (.pointer (some p464))).run Try.prog w = .ok ((qA ((List.getD L i qz).h) ((List.getD L i qz).parts))) w := r_loads (f := qnC) (l := L) aE25 (hr.kept0 hM.kept) qnC_len hp465 (by first | omega | (dsimp only; omega)) qz
      obtain ⟨b467, w468, hr469, hM470⟩ := m_alloc oT25 hM
      have hM471 : Mem [] w0 w468 [⟨25, 8, (obj b467), 1, (qP 0 (.slice none 0 0))⟩, ⟨25, 8, (obj b), 1, (qR h v)⟩] := hM470
      have o478 : (Instr.alloc 25 true (.tuple #[])).run Try.prog w = .ok (pq b467) w468 := hr469
      obtain ⟨w472, hr473, hM474⟩ := c_stores (ys := (qR ((List.getD L i qz).h) ((List.getD L i qz).parts))) aE25 hM471 0 rfl (cel_obj b467 0) rfl (by decide) (by intro u hu; simp at hu; rcases hu with rfl | rfl | rfl | rfl | rfl | rfl | rfl | rfl <;> first | rfl | exact ((hs i (by omega)).kept hM471.kept).one.1)
      have hM475 : Mem [] w0 w472 [⟨25, 8, (obj b467), 1, (qR ((List.getD L i qz).h) ((List.getD L i qz).parts))⟩, ⟨25, 8, (obj b), 1, (qR h v)⟩] := hM474
      have o479 : (Instr.storeAt 25 (pq b467) ((qA ((List.getD L i qz).h) ((List.getD L i qz).parts)))).run Try.prog w468 = .ok () w472 ∧ undef = undef := ⟨hr473, rfl⟩
      have o480 : (Instr.loadAt 25 (pq b467)).run Try.prog w472 = .ok ((qA ((List.getD L i qz).h) ((List.getD L i qz).parts))) w472 := c_loads (ys := (qR ((List.getD L i qz).h) ((List.getD L i qz).parts))) aE25 (hM475.rd 0 rfl) (cel_obj b467 0) rfl (by intro j u hj; match j, hj with | 0, hj => exact hj | 1, hj => exact hj | 2, hj => exact hj | 3, hj => exact hj | 4, hj => exact hj | 5, hj => exact hj | 6, hj => exact hj | 7, hj => exact hj | n + 8, hj => cases hj)
      have hM481 : Mem [] w0 w472 [⟨25, 8, (obj b), 1, (qR h v)⟩] := hM475.sub (cn (cc (List.Sublist.refl _)))
      refine GoS.run [1, 8, 9, 10, 14] [.n, .n, .n, .n, .h (.pointer (some p464)), .h ((qA ((List.getD L i qz).h) ((List.getD L i qz).parts))), .u (pq b467) (w468), .u (undef) (w472), .n, .n, .n, .h ((qA ((List.getD L i qz).h) ((List.getD L i qz).parts)))] _ [.inRegion (cops (csub (cd Try.f19) [1,0,1,0,0,1,1,0,0,1,0])) [1,2], .code (csub (cd Try.f19) [1,0,1,0,0,1,1,0,0,1,1]), .inBlock 1, .code (csub (cd Try.f19) [1,0,1,0,0,1,1,1]), .inLoop (csub (cd Try.f19) [1,0,1,0,0]), .inBlock 0, .code (csub (cd Try.f19) [1,1])] [(1, pq b), (8, v), (9, .int .i64 (((List.length L) : Nat) : Int)), (10, .int .i64 ((i : Nat) : Int)), (14, (qA ((List.getD L i qz).h) ((List.getD L i qz).parts)))] w472 (by kernel_rfl) (.cons o476 (.cons o477 (.cons o478 (.cons o479 (.cons o480 .nil))))) ?_
      have hkb485 := bulk_kid (l := q.l) (i := i) (by omega)
      have hks486 := size_le (List.getD q.l i q0)
      have hbs487 := bulk_step (l := q.l) (i := i) (by omega)
      refine GoS.call [1, 8, 9, 10] 19 #[(qA ((List.getD L i qz).h) ((List.getD L i qz).parts))] (some 15) [.inRegion (cops (csub (cd Try.f19) [1,0,1,0,0,1,1,0,0,1,0])) [2], .code (csub (cd Try.f19) [1,0,1,0,0,1,1,0,0,1,1]), .inBlock 1, .code (csub (cd Try.f19) [1,0,1,0,0,1,1,1]), .inLoop (csub (cd Try.f19) [1,0,1,0,0]), .inBlock 0, .code (csub (cd Try.f19) [1,1])] [(1, pq b), (8, v), (9, .int .i64 (((List.length L) : Nat) : Int)), (10, .int .i64 ((i : Nat) : Int))] (by kernel_rfl) (ih (List.getD q.l i q0) (by omega) ((List.getD L i qz).h) (hh i (by omega)) ((List.getD L i qz).parts) ((hs i (by omega)).kept hM481.kept) (by omega)) ?_
      rintro _ w482 ⟨rfl, m483⟩
      refine ⟨_, rfl, ?_⟩
      have hM484 := Mem.join hM481 m483
      refine GoS.run [1, 8, 9, 10, 16] [.n, .n] _ [.code (csub (cd Try.f19) [1,0,1,0,0,1,1,0,0,1,1]), .inBlock 1, .code (csub (cd Try.f19) [1,0,1,0,0,1,1,1]), .inLoop (csub (cd Try.f19) [1,0,1,0,0]), .inBlock 0, .code (csub (cd Try.f19) [1,1])] [(1, pq b), (8, v), (9, .int .i64 (((List.length L) : Nat) : Int)), (10, .int .i64 ((i : Nat) : Int)), (16, .bool (!(rightQ (List.getD q.l i q0))))] w482 (by kernel_rfl) .nil ?_
      refine GoS.cond (!(rightQ (List.getD q.l i q0))) [.code (csub (cd Try.f19) [1,0,1,0,0,1,1,0,0,1,1,0]), .inBlock 1, .code (csub (cd Try.f19) [1,0,1,0,0,1,1,1]), .inLoop (csub (cd Try.f19) [1,0,1,0,0]), .inBlock 0, .code (csub (cd Try.f19) [1,1])] [.code (csub (cd Try.f19) [1,0,1,0,0,1,1,0,0,1,1,1]), .inBlock 1, .code (csub (cd Try.f19) [1,0,1,0,0,1,1,1]), .inLoop (csub (cd Try.f19) [1,0,1,0,0]), .inBlock 0, .code (csub (cd Try.f19) [1,1])] (by kernel_rfl) (fun h488 => ?_) (fun h488 => ?_)
      ·
        have hM489 : Mem [] w0 w482 [] := hM484.sub (cn (List.Sublist.refl _))
        refine GoS.run [2] [.n, .n, .n, .n] _ [.code (csub (cd Try.f19) [1,0,1,0,0,1,1,0,0,1,1,0,1]), .inBlock 1, .code (csub (cd Try.f19) [1,0,1,0,0,1,1,1]), .inLoop (csub (cd Try.f19) [1,0,1,0,0]), .inBlock 0, .code (csub (cd Try.f19) [1,1])] [(2, .bool false)] w482 (by kernel_rfl) .nil ?_
        refine GoS.ret (fn := Try.f19) (v := (.bool false)) Try.func19 (by kernel_rfl) ?_
        rw [hR]
        exact ⟨ret_bool (right_not (right_bad (show i < q.l.length by omega) (by have z := h488; simpa using z))).symm, hM489.sub (List.nil_sublist _)⟩
      ·
        refine GoS.run [1, 8, 9, 10] [.n] _ [.inBlock 1, .code (csub (cd Try.f19) [1,0,1,0,0,1,1,1]), .inLoop (csub (cd Try.f19) [1,0,1,0,0]), .inBlock 0, .code (csub (cd Try.f19) [1,1])] [(1, pq b), (8, v), (9, .int .i64 (((List.length L) : Nat) : Int)), (10, .int .i64 ((i : Nat) : Int))] w482 (by kernel_rfl) .nil ?_
        have o490 : (binOp .add 3 (.int .i64 ((i : Nat) : Int)) (.int .i64 1)).run Try.prog w482 = .ok (.int .i64 (((i + 1) : Nat) : Int)) w482 := f_add (by rw [show ((i : Nat) : Int) + 1 = (((i + 1) : Nat) : Int) by omega]; exact IntWalk.i64_in _ (by omega))
        refine GoS.run [1, 8, 9, 10] [.n, .n, .h (.int .i64 (((i + 1) : Nat) : Int)), .n, .n, .n] _ [.code (csub (cd Try.f19) [1,0,1,0,0]), .inLoop (csub (cd Try.f19) [1,0,1,0,0]), .inBlock 0, .code (csub (cd Try.f19) [1,1])] [(1, pq b), (8, v), (9, .int .i64 (((List.length L) : Nat) : Int)), (10, .int .i64 (((i + 1) : Nat) : Int))] w482 (by kernel_rfl) (.cons o490 .nil) ?_
        exact ih_ (i + 1) _ (by omega) (by rw [right_step (show i < q.l.length by omega), hRt, Bool.true_and]; have z := h488; simpa using z) (hM484.sub (cc (List.nil_sublist _))) (by omega)
    ·
      have h1p : ¬ (((i : Nat) : Int) < (((List.length L) : Nat) : Int)) := of_decide_eq_false h1
      have o11 : (Instr.loadAt 3 (pq b)).run Try.prog w = .ok (.int .i64 (h.op)) w := c_load pE3 (hM.rd 0 rfl) (cel_obj b 0) rfl
      have o12 : (Instr.loadAt 23 (.pointer (some (⟨b, 7, none⟩)))).run Try.prog w = .ok (v) w := c_load pE23 (hM.rd 0 rfl) (cel_obj b 7) rfl
      have o13 : (Instr.build 25 #[(0, .int .i64 (h.op)), (7, v)]).run Try.prog w = .ok (.agg #[.int .i64 (h.op), .string (sb ([])), .string (sb ([])), .int .i64 0, .int .i64 0, .int .u64 0, .int .u64 0, v]) w := (by obtain ⟨a0_, m0_, c0_, e0_⟩ : ∃ a m c, v = Value.slice a m c := rd_form (hr.kept0 hM.kept); rw [e0_]; kernel_rfl)
      obtain ⟨b2, w3, hr4, hM5⟩ := m_alloc oT25 hM
      have hM6 : Mem [] w0 w3 [⟨25, 8, (obj b2), 1, (qP 0 (.slice none 0 0))⟩, ⟨25, 8, (obj b), 1, (qR h v)⟩] := hM5
      have o14 : (Instr.alloc 25 true (.tuple #[])).run Try.prog w = .ok (pq b2) w3 := hr4
      obtain ⟨w7, hr8, hM9⟩ := c_stores (ys := [.int .i64 (h.op), .string (sb ([])), .string (sb ([])), .int .i64 0, .int .i64 0, .int .u64 0, .int .u64 0, v]) aE25 hM6 0 rfl (cel_obj b2 0) rfl (by decide) (by intro u hu; simp at hu; rcases hu with rfl | rfl | rfl | rfl | rfl | rfl | rfl | rfl <;> first | rfl | exact (hq.kept hM6.kept).one.1)
      have hM10 : Mem [] w0 w7 [⟨25, 8, (obj b2), 1, [.int .i64 (h.op), .string (sb ([])), .string (sb ([])), .int .i64 0, .int .i64 0, .int .u64 0, .int .u64 0, v]⟩, ⟨25, 8, (obj b), 1, (qR h v)⟩] := hM9
      have o15 : (Instr.storeAt 25 (pq b2) (.agg #[.int .i64 (h.op), .string (sb ([])), .string (sb ([])), .int .i64 0, .int .i64 0, .int .u64 0, .int .u64 0, v])).run Try.prog w3 = .ok () w7 ∧ undef = undef := ⟨hr8, rfl⟩
      have o16 : (Instr.loadAt 3 (pq b)).run Try.prog w7 = .ok (.int .i64 (h.op)) w7 := c_load pE3 (hM10.rd 1 rfl) (cel_obj b 0) rfl
      refine GoS.run [1, 5, 6, 24, 25] [.n, .n, .n, .n, .h (.int .i64 (h.op)), .n, .h (v), .h (.agg #[.int .i64 (h.op), .string (sb ([])), .string (sb ([])), .int .i64 0, .int .i64 0, .int .u64 0, .int .u64 0, v]), .u (pq b2) (w3), .u (undef) (w7), .n, .n, .n, .n, .n, .n, .n, .n, .n, .h (.int .i64 (h.op)), .n, .n, .n, .n, .n, .n, .n, .n] _ [.code (csub (cd Try.f19) [1,1,1,1,0,1,0,0,1]), .code (csub (cd Try.f19) [1,1,1,1,0,1,0,1]), .inBlock 2, .code (csub (cd Try.f19) [1,1,1,1,1])] [(1, pq b), (5, pq b2), (6, .int .i64 0), (24, .int .i64 (h.op)), (25, .bool (h.op == 1))] w7 (by kernel_rfl) (.cons o11 (.cons o12 (.cons o13 (.cons o14 (.cons o15 (.cons o16 .nil)))))) ?_
      refine GoS.cond (h.op == 1) [.code (csub (cd Try.f19) [1,1,1,1,0,1,0,0,1,0]), .code (csub (cd Try.f19) [1,1,1,1,0,1,0,1]), .inBlock 2, .code (csub (cd Try.f19) [1,1,1,1,1])] [.code (csub (cd Try.f19) [1,1,1,1,0,1,0,0,1,1]), .code (csub (cd Try.f19) [1,1,1,1,0,1,0,1]), .inBlock 2, .code (csub (cd Try.f19) [1,1,1,1,1])] (by kernel_rfl) (fun h17 => ?_) (fun h17 => ?_)
      ·
        have h17p : h.op = 1 := eq_of_beq h17
        refine GoS.run [1, 5, 6, 24, 25] [.n] _ [.code (csub (cd Try.f19) [1,1,1,1,0,1,0,1]), .inBlock 2, .code (csub (cd Try.f19) [1,1,1,1,1])] [(1, pq b), (5, pq b2), (6, .int .i64 0), (24, .int .i64 (h.op)), (25, .bool (h.op == 1))] w7 (by kernel_rfl) .nil ?_
        refine GoS.cond (h.op == 1) [.code (csub (cd Try.f19) [1,1,1,1,0,1,0,1,0]), .inBlock 2, .code (csub (cd Try.f19) [1,1,1,1,1])] [.code (csub (cd Try.f19) [1,1,1,1,0,1,0,1,1]), .inBlock 2, .code (csub (cd Try.f19) [1,1,1,1,1])] (by kernel_rfl) (fun h21 => ?_) (fun h21 => ?_)
        ·
          have h21p : h.op = 1 := eq_of_beq h21
          refine GoS.run [1, 5, 6] [.n] _ [.code (csub (cd Try.f19) [1,1,1,1,0,1,0,1,0,0]), .code (csub (cd Try.f19) [1,1,1,1,0,1,0,1,0,1]), .inBlock 2, .code (csub (cd Try.f19) [1,1,1,1,1])] [(1, pq b), (5, pq b2), (6, .int .i64 0)] w7 (by kernel_rfl) .nil ?_
          obtain ⟨w22, hw23⟩ : ∃ w_, (w7).drewN 1 = w_ := ⟨_, rfl⟩
          refine GoS.held (fun W_ => Mem [] w0 W_ [⟨25, 8, (obj b), 1, (qR h v)⟩]) [] 16 (by kernel_rfl) (by kernel_rfl) 8 (by kernel_rfl) ?_
          rw [hw23]
          have hM24 : Mem [] w0 w22 [⟨25, 8, (obj b2), 1, [.int .i64 (h.op), .string (sb ([])), .string (sb ([])), .int .i64 0, .int .i64 0, .int .u64 0, .int .u64 0, v]⟩, ⟨25, 8, (obj b), 1, (qR h v)⟩] := hw23 ▸ hM10.ext (Kept.drewN _ _ 1)
          have hS25 : Mem [] w0 w22 [⟨25, 8, (obj b), 1, (qR h v)⟩] := hM24.sub (cn (cc (List.Sublist.refl _)))
          refine GoH.takeV 0 (.pointer (some (⟨b, 1, none⟩))) (.pointer (some (⟨b, 1, none⟩))) (some 31) (fun W_ => by kernel_rfl) rfl hS25 ?_
          refine GoH.takeF 1 (.string (sb (h.field))) (fun W_ => (Instr.loadAt 9 (.pointer (some (⟨b, 1, none⟩)))).run Try.prog W_ = .ok (.string (sb (h.field))) W_) (some 32) (fun W_ => by kernel_rfl) (fun W_ hW_ => c_load pE9 (hW_.rd 0 rfl) (cel_obj b 1) rfl) hS25 ?_
          refine GoH.takeV 2 (.pointer (some (⟨b, 2, none⟩))) (.pointer (some (⟨b, 2, none⟩))) (some 33) (fun W_ => by kernel_rfl) rfl hS25 ?_
          refine GoH.takeF 3 (.string (sb (h.text))) (fun W_ => (Instr.loadAt 9 (.pointer (some (⟨b, 2, none⟩)))).run Try.prog W_ = .ok (.string (sb (h.text))) W_) (some 34) (fun W_ => by kernel_rfl) (fun W_ hW_ => c_load pE9 (hW_.rd 0 rfl) (cel_obj b 2) rfl) hS25 ?_
          refine GoH.takeV 4 (.pointer (some (⟨b2, 1, none⟩))) (.pointer (some (⟨b2, 1, none⟩))) (some 35) (fun W_ => by kernel_rfl) rfl hS25 ?_
          obtain ⟨w26, hr27, hM28⟩ := c_store (u := .string (sb (h.field))) (by kernel_rfl) hM24 0 rfl (cel_obj b2 1) (by decide) rfl rfl
          have hM29 : Mem [] w0 w26 [⟨25, 8, (obj b2), 1, [.int .i64 (h.op), .string (sb (h.field)), .string (sb ([])), .int .i64 0, .int .i64 0, .int .u64 0, .int .u64 0, v]⟩, ⟨25, 8, (obj b), 1, (qR h v)⟩] := hM28
          have hS30 : Mem [] w0 w26 [⟨25, 8, (obj b), 1, (qR h v)⟩] := hM29.sub (cn (cc (List.Sublist.refl _)))
          refine GoH.stepF 5 (undef) (w26) ((Instr.storeAt 9 (.pointer (some (⟨b2, 1, none⟩))) (.string (sb (h.field)))).run Try.prog w22 = .ok () w26 ∧ undef = undef) none (by kernel_rfl) (⟨hr27, rfl⟩) (.inr hS30) ?_
          refine GoH.takeV 6 (.pointer (some (⟨b2, 2, none⟩))) (.pointer (some (⟨b2, 2, none⟩))) (some 36) (fun W_ => by kernel_rfl) rfl hS30 ?_
          obtain ⟨w31, hr32, hM33⟩ := c_store (u := .string (sb (h.text))) (by kernel_rfl) hM29 0 rfl (cel_obj b2 2) (by decide) rfl rfl
          have hM34 : Mem [] w0 w31 [⟨25, 8, (obj b2), 1, [.int .i64 (h.op), .string (sb (h.field)), .string (sb (h.text)), .int .i64 0, .int .i64 0, .int .u64 0, .int .u64 0, v]⟩, ⟨25, 8, (obj b), 1, (qR h v)⟩] := hM33
          have hS35 : Mem [] w0 w31 [⟨25, 8, (obj b), 1, (qR h v)⟩] := hM34.sub (cn (cc (List.Sublist.refl _)))
          refine GoH.stepF 7 (undef) (w31) ((Instr.storeAt 9 (.pointer (some (⟨b2, 2, none⟩))) (.string (sb (h.text)))).run Try.prog w26 = .ok () w31 ∧ undef = undef) none (by kernel_rfl) (⟨hr32, rfl⟩) (.inr hS35) ?_
          refine GoH.done [1, 5, 6] [(1, pq b), (5, pq b2), (6, .int .i64 0)] (by kernel_rfl) (by kernel_rfl) ?_
          have o36 : (Instr.loadAt 3 (pq b)).run Try.prog w31 = .ok (.int .i64 (h.op)) w31 := c_load pE3 (hM34.rd 1 rfl) (cel_obj b 0) rfl
          refine GoS.run [1, 5, 6, 39] [.n, .n, .n, .n, .h (.int .i64 (h.op)), .n, .n] _ [.code (csub (cd Try.f19) [1,1,1,1,0,1,0,1,0,1,0,1]), .code (csub (cd Try.f19) [1,1,1,1,0,1,0,1,0,1,1]), .inBlock 2, .code (csub (cd Try.f19) [1,1,1,1,1])] [(1, pq b), (5, pq b2), (6, .int .i64 0), (39, .bool (h.op == 4))] w31 (by kernel_rfl) (.cons o36 .nil) ?_
          refine GoS.cond (h.op == 4) [.code (csub (cd Try.f19) [1,1,1,1,0,1,0,1,0,1,0,1,0]), .code (csub (cd Try.f19) [1,1,1,1,0,1,0,1,0,1,1]), .inBlock 2, .code (csub (cd Try.f19) [1,1,1,1,1])] [.code (csub (cd Try.f19) [1,1,1,1,0,1,0,1,0,1,0,1,1]), .code (csub (cd Try.f19) [1,1,1,1,0,1,0,1,0,1,1]), .inBlock 2, .code (csub (cd Try.f19) [1,1,1,1,1])] (by kernel_rfl) (fun h37 => ?_) (fun h37 => ?_)
          ·
            have h37p : h.op = 4 := eq_of_beq h37
            obtain ⟨w38, hw39⟩ : ∃ w_, (w31).drewN 1 = w_ := ⟨_, rfl⟩
            refine GoS.held (fun W_ => Mem [] w0 W_ [⟨25, 8, (obj b), 1, (qR h v)⟩]) [] 18 (by kernel_rfl) (by kernel_rfl) 8 (by kernel_rfl) ?_
            rw [hw39]
            have hM40 : Mem [] w0 w38 [⟨25, 8, (obj b2), 1, [.int .i64 (h.op), .string (sb (h.field)), .string (sb (h.text)), .int .i64 0, .int .i64 0, .int .u64 0, .int .u64 0, v]⟩, ⟨25, 8, (obj b), 1, (qR h v)⟩] := hw39 ▸ hM34.ext (Kept.drewN _ _ 1)
            have hS41 : Mem [] w0 w38 [⟨25, 8, (obj b), 1, (qR h v)⟩] := hM40.sub (cn (cc (List.Sublist.refl _)))
            refine GoH.takeV 0 (.pointer (some (⟨b, 3, none⟩))) (.pointer (some (⟨b, 3, none⟩))) (some 40) (fun W_ => by kernel_rfl) rfl hS41 ?_
            refine GoH.takeF 1 (.int .i64 (h.edits)) (fun W_ => (Instr.loadAt 3 (.pointer (some (⟨b, 3, none⟩)))).run Try.prog W_ = .ok (.int .i64 (h.edits)) W_) (some 41) (fun W_ => by kernel_rfl) (fun W_ hW_ => c_load pE3 (hW_.rd 0 rfl) (cel_obj b 3) rfl) hS41 ?_
            refine GoH.takeV 2 (.pointer (some (⟨b, 4, none⟩))) (.pointer (some (⟨b, 4, none⟩))) (some 42) (fun W_ => by kernel_rfl) rfl hS41 ?_
            refine GoH.takeF 3 (.int .i64 (h.exact)) (fun W_ => (Instr.loadAt 3 (.pointer (some (⟨b, 4, none⟩)))).run Try.prog W_ = .ok (.int .i64 (h.exact)) W_) (some 43) (fun W_ => by kernel_rfl) (fun W_ hW_ => c_load pE3 (hW_.rd 0 rfl) (cel_obj b 4) rfl) hS41 ?_
            refine GoH.takeV 4 (.pointer (some (⟨b2, 3, none⟩))) (.pointer (some (⟨b2, 3, none⟩))) (some 44) (fun W_ => by kernel_rfl) rfl hS41 ?_
            obtain ⟨w42, hr43, hM44⟩ := c_store (u := .int .i64 (h.edits)) (by kernel_rfl) hM40 0 rfl (cel_obj b2 3) (by decide) rfl rfl
            have hM45 : Mem [] w0 w42 [⟨25, 8, (obj b2), 1, [.int .i64 (h.op), .string (sb (h.field)), .string (sb (h.text)), .int .i64 (h.edits), .int .i64 0, .int .u64 0, .int .u64 0, v]⟩, ⟨25, 8, (obj b), 1, (qR h v)⟩] := hM44
            have hS46 : Mem [] w0 w42 [⟨25, 8, (obj b), 1, (qR h v)⟩] := hM45.sub (cn (cc (List.Sublist.refl _)))
            refine GoH.stepF 5 (undef) (w42) ((Instr.storeAt 3 (.pointer (some (⟨b2, 3, none⟩))) (.int .i64 (h.edits))).run Try.prog w38 = .ok () w42 ∧ undef = undef) none (by kernel_rfl) (⟨hr43, rfl⟩) (.inr hS46) ?_
            refine GoH.takeV 6 (.pointer (some (⟨b2, 4, none⟩))) (.pointer (some (⟨b2, 4, none⟩))) (some 45) (fun W_ => by kernel_rfl) rfl hS46 ?_
            obtain ⟨w47, hr48, hM49⟩ := c_store (u := .int .i64 (h.exact)) (by kernel_rfl) hM45 0 rfl (cel_obj b2 4) (by decide) rfl rfl
            have hM50 : Mem [] w0 w47 [⟨25, 8, (obj b2), 1, [.int .i64 (h.op), .string (sb (h.field)), .string (sb (h.text)), .int .i64 (h.edits), .int .i64 (h.exact), .int .u64 0, .int .u64 0, v]⟩, ⟨25, 8, (obj b), 1, (qR h v)⟩] := hM49
            have hS51 : Mem [] w0 w47 [⟨25, 8, (obj b), 1, (qR h v)⟩] := hM50.sub (cn (cc (List.Sublist.refl _)))
            refine GoH.stepF 7 (undef) (w47) ((Instr.storeAt 3 (.pointer (some (⟨b2, 4, none⟩))) (.int .i64 (h.exact))).run Try.prog w42 = .ok () w47 ∧ undef = undef) none (by kernel_rfl) (⟨hr48, rfl⟩) (.inr hS51) ?_
            refine GoH.done [1, 5, 6] [(1, pq b), (5, pq b2), (6, .int .i64 0)] (by kernel_rfl) (by kernel_rfl) ?_
            have o52 : (Instr.loadAt 9 (.pointer (some (⟨b, 1, none⟩)))).run Try.prog w47 = .ok (.string (sb (h.field))) w47 := c_load pE9 (hM50.rd 1 rfl) (cel_obj b 1) rfl
            refine GoS.run [1, 5, 6, 47] [.n, .n, .n, .h (.string (sb (h.field)))] _ [.inRegion (cops (csub (cd Try.f19) [1,1,1,1,0,1,0,1,0,1,1,0])) [2,3,4,5,6,7,8], .code (csub (cd Try.f19) [1,1,1,1,0,1,0,1,0,1,1,1]), .inBlock 2, .code (csub (cd Try.f19) [1,1,1,1,1])] [(1, pq b), (5, pq b2), (6, .int .i64 0), (47, .string (sb (h.field)))] w47 (by kernel_rfl) (.cons o52 .nil) ?_
            refine GoS.call [1, 5, 6] 22 #[.string (sb (h.field))] (some 48) [.inRegion (cops (csub (cd Try.f19) [1,1,1,1,0,1,0,1,0,1,1,0])) [3,4,5,6,7,8], .code (csub (cd Try.f19) [1,1,1,1,0,1,0,1,0,1,1,1]), .inBlock 2, .code (csub (cd Try.f19) [1,1,1,1,1])] [(1, pq b), (5, pq b2), (6, .int .i64 0)] (by kernel_rfl) (name_c (h.field) (by rw [he]; omega) w47) ?_
            rintro _ _ ⟨rfl, rfl⟩
            refine ⟨_, rfl, ?_⟩
            refine GoS.run [1, 5, 6, 50] [.n, .n] _ [.inRegion (cops (csub (cd Try.f19) [1,1,1,1,0,1,0,1,0,1,1,0])) [5,6,7,8], .code (csub (cd Try.f19) [1,1,1,1,0,1,0,1,0,1,1,1]), .inBlock 2, .code (csub (cd Try.f19) [1,1,1,1,1])] [(1, pq b), (5, pq b2), (6, .int .i64 0), (50, .bool (!(nameP (h.field))))] w47 (by kernel_rfl) .nil ?_
            refine GoS.fork 50 (!(nameP (h.field))) (by kernel_rfl) (fun h53 => ?_) (fun h53 => ?_)
            ·
              refine GoS.run [1, 5, 6, 54] [.n, .n, .n, .n] _ [.inRegion (cops (csub (cd Try.f19) [1,1,1,1,0,1,0,1,0,1,1,0])) [], .code (csub (cd Try.f19) [1,1,1,1,0,1,0,1,0,1,1,1]), .inBlock 2, .code (csub (cd Try.f19) [1,1,1,1,1])] [(1, pq b), (5, pq b2), (6, .int .i64 0), (54, .bool true)] w47 (by kernel_rfl) .nil ?_
              have hM58 : Mem [] w0 w47 [] := hM50.sub (cn (cn (List.Sublist.refl _)))
              refine GoS.run [2] [.n, .n, .n, .n, .n, .n] _ [.code (csub (cd Try.f19) [1,1,1,1,0,1,0,1,0,1,1,1,0,1]), .inBlock 2, .code (csub (cd Try.f19) [1,1,1,1,1])] [(2, .bool false)] w47 (by kernel_rfl) .nil ?_
              refine GoS.ret (fn := Try.f19) (v := (.bool false)) Try.func19 (by kernel_rfl) ?_
              rw [hR]
              have hall : rightL q.l = true := by rw [← tk_all (l := q.l) (i := i) (by omega)]; exact hRt
              have hro := right_of hall
              rw [← he] at hro
              exact ⟨ret_bool (by rw [hro, node_name (by omega) (by have z := h53; simpa using z)]), hM58.sub (List.nil_sublist _)⟩
            ·
              have o54 : (Instr.loadAt 25 (pq b)).run Try.prog w47 = .ok ((qA h v)) w47 := c_loads (ys := (qR h v)) aE25 (hM50.rd 1 rfl) (cel_obj b 0) rfl (by intro j u hj; match j, hj with | 0, hj => exact hj | 1, hj => exact hj | 2, hj => exact hj | 3, hj => exact hj | 4, hj => exact hj | 5, hj => exact hj | 6, hj => exact hj | 7, hj => exact hj | n + 8, hj => cases hj)
              refine GoS.run [1, 5, 6, 50, 51] [.h ((qA h v))] _ [.inRegion (cops (csub (cd Try.f19) [1,1,1,1,0,1,0,1,0,1,1,0])) [6,7,8], .code (csub (cd Try.f19) [1,1,1,1,0,1,0,1,0,1,1,1]), .inBlock 2, .code (csub (cd Try.f19) [1,1,1,1,1])] [(1, pq b), (5, pq b2), (6, .int .i64 0), (50, .bool false), (51, (qA h v))] w47 (by kernel_rfl) (.cons o54 .nil) ?_
              refine GoS.call [1, 5, 6, 50] 23 #[(qA h v)] (some 52) [.inRegion (cops (csub (cd Try.f19) [1,1,1,1,0,1,0,1,0,1,1,0])) [7,8], .code (csub (cd Try.f19) [1,1,1,1,0,1,0,1,0,1,1,1]), .inBlock 2, .code (csub (cd Try.f19) [1,1,1,1,1])] [(1, pq b), (5, pq b2), (6, .int .i64 0), (50, .bool false)] (by kernel_rfl) (words_c q h he v (hq.kept hM50.kept) (by omega)) ?_
              rintro _ w55 ⟨rfl, m56⟩
              refine ⟨_, rfl, ?_⟩
              have hM57 := Mem.join hM50 m56
              refine GoS.run [1, 5, 6, 54] [.n, .n] _ [.inRegion (cops (csub (cd Try.f19) [1,1,1,1,0,1,0,1,0,1,1,0])) [], .code (csub (cd Try.f19) [1,1,1,1,0,1,0,1,0,1,1,1]), .inBlock 2, .code (csub (cd Try.f19) [1,1,1,1,1])] [(1, pq b), (5, pq b2), (6, .int .i64 0), (54, .bool (!(wordsP h)))] w55 (by kernel_rfl) .nil ?_
              refine GoS.run [1, 5, 6, 54] [.n] _ [.code (csub (cd Try.f19) [1,1,1,1,0,1,0,1,0,1,1,1]), .inBlock 2, .code (csub (cd Try.f19) [1,1,1,1,1])] [(1, pq b), (5, pq b2), (6, .int .i64 0), (54, .bool (!(wordsP h)))] w55 (by kernel_rfl) .nil ?_
              refine GoS.cond (!(wordsP h)) [.code (csub (cd Try.f19) [1,1,1,1,0,1,0,1,0,1,1,1,0]), .inBlock 2, .code (csub (cd Try.f19) [1,1,1,1,1])] [.code (csub (cd Try.f19) [1,1,1,1,0,1,0,1,0,1,1,1,1]), .inBlock 2, .code (csub (cd Try.f19) [1,1,1,1,1])] (by kernel_rfl) (fun h59 => ?_) (fun h59 => ?_)
              ·
                have hM60 : Mem [] w0 w55 [] := hM57.sub (cn (cn (List.Sublist.refl _)))
                refine GoS.run [2] [.n, .n, .n, .n] _ [.code (csub (cd Try.f19) [1,1,1,1,0,1,0,1,0,1,1,1,0,1]), .inBlock 2, .code (csub (cd Try.f19) [1,1,1,1,1])] [(2, .bool false)] w55 (by kernel_rfl) .nil ?_
                refine GoS.ret (fn := Try.f19) (v := (.bool false)) Try.func19 (by kernel_rfl) ?_
                rw [hR]
                have hall : rightL q.l = true := by rw [← tk_all (l := q.l) (i := i) (by omega)]; exact hRt
                have hro := right_of hall
                rw [← he] at hro
                exact ⟨ret_bool (by rw [hro, node_noword (by omega) (of_decide_eq_false (by have z := h59; simpa [wordsP] using z))]), hM60.sub (List.nil_sublist _)⟩
              ·
                refine GoS.run [1, 5, 6] [.n] _ [.inBlock 2, .code (csub (cd Try.f19) [1,1,1,1,1])] [(1, pq b), (5, pq b2), (6, .int .i64 0)] w55 (by kernel_rfl) .nil ?_
                refine GoS.run [1, 5, 6] [.n, .n] _ [.code (csub (cd Try.f19) [1,1,1,1,1,0]), .code (csub (cd Try.f19) [1,1,1,1,1,1])] [(1, pq b), (5, pq b2), (6, .int .i64 0)] w55 (by kernel_rfl) .nil ?_
                obtain ⟨w70, hw71⟩ : ∃ w_, (w55).drewN 1 = w_ := ⟨_, rfl⟩
                refine GoS.held (fun W_ => Mem [] w0 W_ [⟨25, 8, (obj b2), 1, [.int .i64 (h.op), .string (sb (h.field)), .string (sb (h.text)), .int .i64 (h.edits), .int .i64 (h.exact), .int .u64 0, .int .u64 0, v]⟩, ⟨25, 8, (obj b), 1, (qR h v)⟩]) [] 31 (by kernel_rfl) (by kernel_rfl) 13 (by kernel_rfl) ?_
                rw [hw71]
                have hM72 : Mem [] w0 w70 [⟨25, 8, (obj b2), 1, [.int .i64 (h.op), .string (sb (h.field)), .string (sb (h.text)), .int .i64 (h.edits), .int .i64 (h.exact), .int .u64 0, .int .u64 0, v]⟩, ⟨25, 8, (obj b), 1, (qR h v)⟩] := hw71 ▸ hM57.ext (Kept.drewN _ _ 1)
                have hS73 : Mem [] w0 w70 [⟨25, 8, (obj b2), 1, [.int .i64 (h.op), .string (sb (h.field)), .string (sb (h.text)), .int .i64 (h.edits), .int .i64 (h.exact), .int .u64 0, .int .u64 0, v]⟩, ⟨25, 8, (obj b), 1, (qR h v)⟩] := hM72.sub (cc (cc (List.Sublist.refl _)))
                refine GoH.takeV 0 (.pointer (some (⟨b, 7, none⟩))) (.pointer (some (⟨b, 7, none⟩))) (some 81) (fun W_ => by kernel_rfl) rfl hS73 ?_
                refine GoH.takeF 1 (v) (fun W_ => (Instr.loadAt 23 (.pointer (some (⟨b, 7, none⟩)))).run Try.prog W_ = .ok (v) W_) (some 82) (fun W_ => by kernel_rfl) (fun W_ hW_ => c_load pE23 (hW_.rd 1 rfl) (cel_obj b 7) rfl) hS73 ?_
                refine GoH.takeF 2 (.int .i64 (((List.length L) : Nat) : Int)) (fun W_ => (Builtin.len_ #[23] 3 #[v]).run Try.prog W_ = .ok (.int .i64 (((List.length L) : Nat) : Int)) W_) (some 83) (fun W_ => by kernel_rfl) (fun W_ hW_ => f_slen sT23 (hr.kept0 hW_.kept) 3 _) hS73 ?_
                refine GoH.takeV 3 (.int .i64 0) (.int .i64 0) (some 84) (fun W_ => by kernel_rfl) rfl hS73 ?_
                refine GoH.takeV 4 (.bool ((((List.length L) : Nat) : Int) == 0)) (.bool ((((List.length L) : Nat) : Int) == 0)) (some 85) (fun W_ => by kernel_rfl) rfl hS73 ?_
                rcases Bool.eq_false_or_eq_true ((((List.length L) : Nat) : Int) == 0) with h74 | h74
                ·
                  have h74p : (((List.length L) : Nat) : Int) = 0 := eq_of_beq h74
                  refine GoH.takeV 5 (.bool ((((List.length L) : Nat) : Int) == 0)) (.bool true) (some 86) (fun W_ => by kernel_rfl) (congrArg Value.bool h74) hS73 ?_
                  refine GoH.takeF 6 ((qA h v)) (fun W_ => (Instr.loadAt 25 (pq b)).run Try.prog W_ = .ok ((qA h v)) W_) (some 87) (fun W_ => by kernel_rfl) (fun W_ hW_ => c_loads (ys := (qR h v)) aE25 (hW_.rd 1 rfl) (cel_obj b 0) rfl (by intro j u hj; match j, hj with | 0, hj => exact hj | 1, hj => exact hj | 2, hj => exact hj | 3, hj => exact hj | 4, hj => exact hj | 5, hj => exact hj | 6, hj => exact hj | 7, hj => exact hj | n + 8, hj => cases hj)) hS73 ?_
                  refine GoH.takeF 8 (.agg #[.int .i64 (h.op), .string (sb (h.field)), .string (sb (h.text)), .int .i64 (h.edits), .int .i64 (h.exact), .int .u64 0, .int .u64 0, v]) (fun W_ => (Instr.loadAt 25 (pq b2)).run Try.prog W_ = .ok (.agg #[.int .i64 (h.op), .string (sb (h.field)), .string (sb (h.text)), .int .i64 (h.edits), .int .i64 (h.exact), .int .u64 0, .int .u64 0, v]) W_) (some 89) (fun W_ => by kernel_rfl) (fun W_ hW_ => c_loads (ys := [.int .i64 (h.op), .string (sb (h.field)), .string (sb (h.text)), .int .i64 (h.edits), .int .i64 (h.exact), .int .u64 0, .int .u64 0, v]) aE25 (hW_.rd 0 rfl) (cel_obj b2 0) rfl (by intro j u hj; match j, hj with | 0, hj => exact hj | 1, hj => exact hj | 2, hj => exact hj | 3, hj => exact hj | 4, hj => exact hj | 5, hj => exact hj | 6, hj => exact hj | 7, hj => exact hj | n + 8, hj => cases hj)) hS73 ?_
                  refine GoH.callF 7 21 #[(qA h v)] (some 88) (by kernel_rfl) (flat_c (w := w70) h v) ?_
                  rintro _ w75 ⟨rfl, m76⟩
                  have hM77 := Mem.join hM72 m76
                  have hS78 : Mem [] w0 w75 [⟨25, 8, (obj b2), 1, [.int .i64 (h.op), .string (sb (h.field)), .string (sb (h.text)), .int .i64 (h.edits), .int .i64 (h.exact), .int .u64 0, .int .u64 0, v]⟩, ⟨25, 8, (obj b), 1, (qR h v)⟩] := hM77.sub (cc (cc (List.Sublist.refl _)))
                  refine ⟨(qH h), rfl, .inr hS78, ?_⟩
                  refine GoH.callF 9 21 #[.agg #[.int .i64 (h.op), .string (sb (h.field)), .string (sb (h.text)), .int .i64 (h.edits), .int .i64 (h.exact), .int .u64 0, .int .u64 0, v]] (some 90) (by kernel_rfl) (flat_c (w := w75) (Hd.mk (h.op) (h.field) (h.text) (h.edits) (h.exact) 0 0) v) ?_
                  rintro _ w79 ⟨rfl, m80⟩
                  have hM81 := Mem.join hM77 m80
                  have hS82 : Mem [] w0 w79 [⟨25, 8, (obj b2), 1, [.int .i64 (h.op), .string (sb (h.field)), .string (sb (h.text)), .int .i64 (h.edits), .int .i64 (h.exact), .int .u64 0, .int .u64 0, v]⟩, ⟨25, 8, (obj b), 1, (qR h v)⟩] := hM81.sub (cc (cc (List.Sublist.refl _)))
                  refine ⟨.agg #[.int .i64 (h.op), .string (sb (h.field)), .string (sb (h.text)), .int .i64 (h.edits), .int .i64 (h.exact), .int .u64 0, .int .u64 0], rfl, .inr hS82, ?_⟩
                  refine GoH.takeF 10 (.bool (nothP h true true false)) (fun W_ => Try.prog.eqGuardType Try.prog.depth 38 = false ∧ (binOp .eql 38 ((qH h)) (.agg #[.int .i64 (h.op), .string (sb (h.field)), .string (sb (h.text)), .int .i64 (h.edits), .int .i64 (h.exact), .int .u64 0, .int .u64 0])).run Try.prog W_ = .ok (.bool (nothP h true true false)) W_) (some 91) (fun W_ => by kernel_rfl) (fun W_ hW_ => f_ageq eT38 (xs := [.int .i64 (h.op), .string (sb (h.field)), .string (sb (h.text)), .int .i64 (h.edits), .int .i64 (h.exact), .int .u64 (h.lo), .int .u64 (h.hi)]) (ys := [.int .i64 (h.op), .string (sb (h.field)), .string (sb (h.text)), .int .i64 (h.edits), .int .i64 (h.exact), .int .u64 0, .int .u64 0]) (r := ((h.op == h.op) && (((sb (h.field)).toList == (sb (h.field)).toList) && (((sb (h.text)).toList == (sb (h.text)).toList) && ((h.edits == h.edits) && ((h.exact == h.exact) && ((h.lo == 0) && ((h.hi == 0) && true)))))))) (by kernel_rfl) (noth_f h)) hS82 ?_
                  refine GoH.takeV 11 (.bool (nothP h true true false)) (.bool (nothP h true true false)) (some 92) (fun W_ => by kernel_rfl) rfl hS82 ?_
                  refine GoH.takeV 12 (.bool (nothP h true true false)) (.bool (nothP h true true false)) (some 2) (fun W_ => by kernel_rfl) rfl hS82 ?_
                  refine GoH.done [2] [(2, .bool (nothP h true true false))] (by kernel_rfl) (by kernel_rfl) ?_
                  have hM83 : Mem [] w0 w79 [] := hM81.sub (cn (cn (List.Sublist.refl _)))
                  refine GoS.ret (fn := Try.f19) (v := (.bool (nothP h true true false))) Try.func19 (by kernel_rfl) ?_
                  rw [hR]
                  have hall : rightL q.l = true := by rw [← tk_all (l := q.l) (i := i) (by omega)]; exact hRt
                  have hro := right_of hall
                  rw [← he] at hro
                  exact ⟨ret_bool (by rw [hro, node_word (by omega) (by have z := h53; simpa using z) (of_decide_eq_true (by have z := h59; simpa [wordsP] using z)) (by omega), if_pos (by omega)]), hM83.sub (List.nil_sublist _)⟩
                ·
                  have h74p : ¬ ((((List.length L) : Nat) : Int) = 0) := p_ne h74
                  refine GoH.takeV 5 (.bool ((((List.length L) : Nat) : Int) == 0)) (.bool false) (some 86) (fun W_ => by kernel_rfl) (congrArg Value.bool h74) hS73 ?_
                  refine GoH.skipF 6 (some 87) (by kernel_rfl) hS73 ?_
                  refine GoH.skipF 7 (some 88) (by kernel_rfl) hS73 ?_
                  refine GoH.skipF 8 (some 89) (by kernel_rfl) hS73 ?_
                  refine GoH.skipF 9 (some 90) (by kernel_rfl) hS73 ?_
                  refine GoH.skipF 10 (some 91) (by kernel_rfl) hS73 ?_
                  refine GoH.takeV 11 (.bool false) (.bool false) (some 92) (fun W_ => by kernel_rfl) rfl hS73 ?_
                  refine GoH.takeV 12 (.bool false) (.bool false) (some 2) (fun W_ => by kernel_rfl) rfl hS73 ?_
                  refine GoH.done [2] [(2, .bool false)] (by kernel_rfl) (by kernel_rfl) ?_
                  have hM84 : Mem [] w0 w70 [] := hM72.sub (cn (cn (List.Sublist.refl _)))
                  refine GoS.ret (fn := Try.f19) (v := (.bool false)) Try.func19 (by kernel_rfl) ?_
                  rw [hR]
                  have hall : rightL q.l = true := by rw [← tk_all (l := q.l) (i := i) (by omega)]; exact hRt
                  have hro := right_of hall
                  rw [← he] at hro
                  exact ⟨ret_bool (by rw [hro, node_many (by omega) (by omega)]), hM84.sub (List.nil_sublist _)⟩
          ·
            have h37p : ¬ (h.op = 4) := p_ne h37
            refine GoS.run [1, 5, 6] [.n] _ [.code (csub (cd Try.f19) [1,1,1,1,0,1,0,1,0,1,1]), .inBlock 2, .code (csub (cd Try.f19) [1,1,1,1,1])] [(1, pq b), (5, pq b2), (6, .int .i64 0)] w31 (by kernel_rfl) .nil ?_
            have o61 : (Instr.loadAt 9 (.pointer (some (⟨b, 1, none⟩)))).run Try.prog w31 = .ok (.string (sb (h.field))) w31 := c_load pE9 (hM34.rd 1 rfl) (cel_obj b 1) rfl
            refine GoS.run [1, 5, 6, 47] [.n, .n, .n, .h (.string (sb (h.field)))] _ [.inRegion (cops (csub (cd Try.f19) [1,1,1,1,0,1,0,1,0,1,1,0])) [2,3,4,5,6,7,8], .code (csub (cd Try.f19) [1,1,1,1,0,1,0,1,0,1,1,1]), .inBlock 2, .code (csub (cd Try.f19) [1,1,1,1,1])] [(1, pq b), (5, pq b2), (6, .int .i64 0), (47, .string (sb (h.field)))] w31 (by kernel_rfl) (.cons o61 .nil) ?_
            refine GoS.call [1, 5, 6] 22 #[.string (sb (h.field))] (some 48) [.inRegion (cops (csub (cd Try.f19) [1,1,1,1,0,1,0,1,0,1,1,0])) [3,4,5,6,7,8], .code (csub (cd Try.f19) [1,1,1,1,0,1,0,1,0,1,1,1]), .inBlock 2, .code (csub (cd Try.f19) [1,1,1,1,1])] [(1, pq b), (5, pq b2), (6, .int .i64 0)] (by kernel_rfl) (name_c (h.field) (by rw [he]; omega) w31) ?_
            rintro _ _ ⟨rfl, rfl⟩
            refine ⟨_, rfl, ?_⟩
            refine GoS.run [1, 5, 6, 50] [.n, .n] _ [.inRegion (cops (csub (cd Try.f19) [1,1,1,1,0,1,0,1,0,1,1,0])) [5,6,7,8], .code (csub (cd Try.f19) [1,1,1,1,0,1,0,1,0,1,1,1]), .inBlock 2, .code (csub (cd Try.f19) [1,1,1,1,1])] [(1, pq b), (5, pq b2), (6, .int .i64 0), (50, .bool (!(nameP (h.field))))] w31 (by kernel_rfl) .nil ?_
            refine GoS.fork 50 (!(nameP (h.field))) (by kernel_rfl) (fun h62 => ?_) (fun h62 => ?_)
            ·
              refine GoS.run [1, 5, 6, 54] [.n, .n, .n, .n] _ [.inRegion (cops (csub (cd Try.f19) [1,1,1,1,0,1,0,1,0,1,1,0])) [], .code (csub (cd Try.f19) [1,1,1,1,0,1,0,1,0,1,1,1]), .inBlock 2, .code (csub (cd Try.f19) [1,1,1,1,1])] [(1, pq b), (5, pq b2), (6, .int .i64 0), (54, .bool true)] w31 (by kernel_rfl) .nil ?_
              have hM67 : Mem [] w0 w31 [] := hM34.sub (cn (cn (List.Sublist.refl _)))
              refine GoS.run [2] [.n, .n, .n, .n, .n, .n] _ [.code (csub (cd Try.f19) [1,1,1,1,0,1,0,1,0,1,1,1,0,1]), .inBlock 2, .code (csub (cd Try.f19) [1,1,1,1,1])] [(2, .bool false)] w31 (by kernel_rfl) .nil ?_
              refine GoS.ret (fn := Try.f19) (v := (.bool false)) Try.func19 (by kernel_rfl) ?_
              rw [hR]
              have hall : rightL q.l = true := by rw [← tk_all (l := q.l) (i := i) (by omega)]; exact hRt
              have hro := right_of hall
              rw [← he] at hro
              exact ⟨ret_bool (by rw [hro, node_name (by omega) (by have z := h62; simpa using z)]), hM67.sub (List.nil_sublist _)⟩
            ·
              have o63 : (Instr.loadAt 25 (pq b)).run Try.prog w31 = .ok ((qA h v)) w31 := c_loads (ys := (qR h v)) aE25 (hM34.rd 1 rfl) (cel_obj b 0) rfl (by intro j u hj; match j, hj with | 0, hj => exact hj | 1, hj => exact hj | 2, hj => exact hj | 3, hj => exact hj | 4, hj => exact hj | 5, hj => exact hj | 6, hj => exact hj | 7, hj => exact hj | n + 8, hj => cases hj)
              refine GoS.run [1, 5, 6, 50, 51] [.h ((qA h v))] _ [.inRegion (cops (csub (cd Try.f19) [1,1,1,1,0,1,0,1,0,1,1,0])) [6,7,8], .code (csub (cd Try.f19) [1,1,1,1,0,1,0,1,0,1,1,1]), .inBlock 2, .code (csub (cd Try.f19) [1,1,1,1,1])] [(1, pq b), (5, pq b2), (6, .int .i64 0), (50, .bool false), (51, (qA h v))] w31 (by kernel_rfl) (.cons o63 .nil) ?_
              refine GoS.call [1, 5, 6, 50] 23 #[(qA h v)] (some 52) [.inRegion (cops (csub (cd Try.f19) [1,1,1,1,0,1,0,1,0,1,1,0])) [7,8], .code (csub (cd Try.f19) [1,1,1,1,0,1,0,1,0,1,1,1]), .inBlock 2, .code (csub (cd Try.f19) [1,1,1,1,1])] [(1, pq b), (5, pq b2), (6, .int .i64 0), (50, .bool false)] (by kernel_rfl) (words_c q h he v (hq.kept hM34.kept) (by omega)) ?_
              rintro _ w64 ⟨rfl, m65⟩
              refine ⟨_, rfl, ?_⟩
              have hM66 := Mem.join hM34 m65
              refine GoS.run [1, 5, 6, 54] [.n, .n] _ [.inRegion (cops (csub (cd Try.f19) [1,1,1,1,0,1,0,1,0,1,1,0])) [], .code (csub (cd Try.f19) [1,1,1,1,0,1,0,1,0,1,1,1]), .inBlock 2, .code (csub (cd Try.f19) [1,1,1,1,1])] [(1, pq b), (5, pq b2), (6, .int .i64 0), (54, .bool (!(wordsP h)))] w64 (by kernel_rfl) .nil ?_
              refine GoS.run [1, 5, 6, 54] [.n] _ [.code (csub (cd Try.f19) [1,1,1,1,0,1,0,1,0,1,1,1]), .inBlock 2, .code (csub (cd Try.f19) [1,1,1,1,1])] [(1, pq b), (5, pq b2), (6, .int .i64 0), (54, .bool (!(wordsP h)))] w64 (by kernel_rfl) .nil ?_
              refine GoS.cond (!(wordsP h)) [.code (csub (cd Try.f19) [1,1,1,1,0,1,0,1,0,1,1,1,0]), .inBlock 2, .code (csub (cd Try.f19) [1,1,1,1,1])] [.code (csub (cd Try.f19) [1,1,1,1,0,1,0,1,0,1,1,1,1]), .inBlock 2, .code (csub (cd Try.f19) [1,1,1,1,1])] (by kernel_rfl) (fun h68 => ?_) (fun h68 => ?_)
              ·
                have hM69 : Mem [] w0 w64 [] := hM66.sub (cn (cn (List.Sublist.refl _)))
                refine GoS.run [2] [.n, .n, .n, .n] _ [.code (csub (cd Try.f19) [1,1,1,1,0,1,0,1,0,1,1,1,0,1]), .inBlock 2, .code (csub (cd Try.f19) [1,1,1,1,1])] [(2, .bool false)] w64 (by kernel_rfl) .nil ?_
                refine GoS.ret (fn := Try.f19) (v := (.bool false)) Try.func19 (by kernel_rfl) ?_
                rw [hR]
                have hall : rightL q.l = true := by rw [← tk_all (l := q.l) (i := i) (by omega)]; exact hRt
                have hro := right_of hall
                rw [← he] at hro
                exact ⟨ret_bool (by rw [hro, node_noword (by omega) (of_decide_eq_false (by have z := h68; simpa [wordsP] using z))]), hM69.sub (List.nil_sublist _)⟩
              ·
                refine GoS.run [1, 5, 6] [.n] _ [.inBlock 2, .code (csub (cd Try.f19) [1,1,1,1,1])] [(1, pq b), (5, pq b2), (6, .int .i64 0)] w64 (by kernel_rfl) .nil ?_
                refine GoS.run [1, 5, 6] [.n, .n] _ [.code (csub (cd Try.f19) [1,1,1,1,1,0]), .code (csub (cd Try.f19) [1,1,1,1,1,1])] [(1, pq b), (5, pq b2), (6, .int .i64 0)] w64 (by kernel_rfl) .nil ?_
                obtain ⟨w85, hw86⟩ : ∃ w_, (w64).drewN 1 = w_ := ⟨_, rfl⟩
                refine GoS.held (fun W_ => Mem [] w0 W_ [⟨25, 8, (obj b2), 1, [.int .i64 (h.op), .string (sb (h.field)), .string (sb (h.text)), .int .i64 0, .int .i64 0, .int .u64 0, .int .u64 0, v]⟩, ⟨25, 8, (obj b), 1, (qR h v)⟩]) [] 31 (by kernel_rfl) (by kernel_rfl) 13 (by kernel_rfl) ?_
                rw [hw86]
                have hM87 : Mem [] w0 w85 [⟨25, 8, (obj b2), 1, [.int .i64 (h.op), .string (sb (h.field)), .string (sb (h.text)), .int .i64 0, .int .i64 0, .int .u64 0, .int .u64 0, v]⟩, ⟨25, 8, (obj b), 1, (qR h v)⟩] := hw86 ▸ hM66.ext (Kept.drewN _ _ 1)
                have hS88 : Mem [] w0 w85 [⟨25, 8, (obj b2), 1, [.int .i64 (h.op), .string (sb (h.field)), .string (sb (h.text)), .int .i64 0, .int .i64 0, .int .u64 0, .int .u64 0, v]⟩, ⟨25, 8, (obj b), 1, (qR h v)⟩] := hM87.sub (cc (cc (List.Sublist.refl _)))
                refine GoH.takeV 0 (.pointer (some (⟨b, 7, none⟩))) (.pointer (some (⟨b, 7, none⟩))) (some 81) (fun W_ => by kernel_rfl) rfl hS88 ?_
                refine GoH.takeF 1 (v) (fun W_ => (Instr.loadAt 23 (.pointer (some (⟨b, 7, none⟩)))).run Try.prog W_ = .ok (v) W_) (some 82) (fun W_ => by kernel_rfl) (fun W_ hW_ => c_load pE23 (hW_.rd 1 rfl) (cel_obj b 7) rfl) hS88 ?_
                refine GoH.takeF 2 (.int .i64 (((List.length L) : Nat) : Int)) (fun W_ => (Builtin.len_ #[23] 3 #[v]).run Try.prog W_ = .ok (.int .i64 (((List.length L) : Nat) : Int)) W_) (some 83) (fun W_ => by kernel_rfl) (fun W_ hW_ => f_slen sT23 (hr.kept0 hW_.kept) 3 _) hS88 ?_
                refine GoH.takeV 3 (.int .i64 0) (.int .i64 0) (some 84) (fun W_ => by kernel_rfl) rfl hS88 ?_
                refine GoH.takeV 4 (.bool ((((List.length L) : Nat) : Int) == 0)) (.bool ((((List.length L) : Nat) : Int) == 0)) (some 85) (fun W_ => by kernel_rfl) rfl hS88 ?_
                rcases Bool.eq_false_or_eq_true ((((List.length L) : Nat) : Int) == 0) with h89 | h89
                ·
                  have h89p : (((List.length L) : Nat) : Int) = 0 := eq_of_beq h89
                  refine GoH.takeV 5 (.bool ((((List.length L) : Nat) : Int) == 0)) (.bool true) (some 86) (fun W_ => by kernel_rfl) (congrArg Value.bool h89) hS88 ?_
                  refine GoH.takeF 6 ((qA h v)) (fun W_ => (Instr.loadAt 25 (pq b)).run Try.prog W_ = .ok ((qA h v)) W_) (some 87) (fun W_ => by kernel_rfl) (fun W_ hW_ => c_loads (ys := (qR h v)) aE25 (hW_.rd 1 rfl) (cel_obj b 0) rfl (by intro j u hj; match j, hj with | 0, hj => exact hj | 1, hj => exact hj | 2, hj => exact hj | 3, hj => exact hj | 4, hj => exact hj | 5, hj => exact hj | 6, hj => exact hj | 7, hj => exact hj | n + 8, hj => cases hj)) hS88 ?_
                  refine GoH.takeF 8 (.agg #[.int .i64 (h.op), .string (sb (h.field)), .string (sb (h.text)), .int .i64 0, .int .i64 0, .int .u64 0, .int .u64 0, v]) (fun W_ => (Instr.loadAt 25 (pq b2)).run Try.prog W_ = .ok (.agg #[.int .i64 (h.op), .string (sb (h.field)), .string (sb (h.text)), .int .i64 0, .int .i64 0, .int .u64 0, .int .u64 0, v]) W_) (some 89) (fun W_ => by kernel_rfl) (fun W_ hW_ => c_loads (ys := [.int .i64 (h.op), .string (sb (h.field)), .string (sb (h.text)), .int .i64 0, .int .i64 0, .int .u64 0, .int .u64 0, v]) aE25 (hW_.rd 0 rfl) (cel_obj b2 0) rfl (by intro j u hj; match j, hj with | 0, hj => exact hj | 1, hj => exact hj | 2, hj => exact hj | 3, hj => exact hj | 4, hj => exact hj | 5, hj => exact hj | 6, hj => exact hj | 7, hj => exact hj | n + 8, hj => cases hj)) hS88 ?_
                  refine GoH.callF 7 21 #[(qA h v)] (some 88) (by kernel_rfl) (flat_c (w := w85) h v) ?_
                  rintro _ w90 ⟨rfl, m91⟩
                  have hM92 := Mem.join hM87 m91
                  have hS93 : Mem [] w0 w90 [⟨25, 8, (obj b2), 1, [.int .i64 (h.op), .string (sb (h.field)), .string (sb (h.text)), .int .i64 0, .int .i64 0, .int .u64 0, .int .u64 0, v]⟩, ⟨25, 8, (obj b), 1, (qR h v)⟩] := hM92.sub (cc (cc (List.Sublist.refl _)))
                  refine ⟨(qH h), rfl, .inr hS93, ?_⟩
                  refine GoH.callF 9 21 #[.agg #[.int .i64 (h.op), .string (sb (h.field)), .string (sb (h.text)), .int .i64 0, .int .i64 0, .int .u64 0, .int .u64 0, v]] (some 90) (by kernel_rfl) (flat_c (w := w90) (Hd.mk (h.op) (h.field) (h.text) 0 0 0 0) v) ?_
                  rintro _ w94 ⟨rfl, m95⟩
                  have hM96 := Mem.join hM92 m95
                  have hS97 : Mem [] w0 w94 [⟨25, 8, (obj b2), 1, [.int .i64 (h.op), .string (sb (h.field)), .string (sb (h.text)), .int .i64 0, .int .i64 0, .int .u64 0, .int .u64 0, v]⟩, ⟨25, 8, (obj b), 1, (qR h v)⟩] := hM96.sub (cc (cc (List.Sublist.refl _)))
                  refine ⟨.agg #[.int .i64 (h.op), .string (sb (h.field)), .string (sb (h.text)), .int .i64 0, .int .i64 0, .int .u64 0, .int .u64 0], rfl, .inr hS97, ?_⟩
                  refine GoH.takeF 10 (.bool (nothP h true false false)) (fun W_ => Try.prog.eqGuardType Try.prog.depth 38 = false ∧ (binOp .eql 38 ((qH h)) (.agg #[.int .i64 (h.op), .string (sb (h.field)), .string (sb (h.text)), .int .i64 0, .int .i64 0, .int .u64 0, .int .u64 0])).run Try.prog W_ = .ok (.bool (nothP h true false false)) W_) (some 91) (fun W_ => by kernel_rfl) (fun W_ hW_ => f_ageq eT38 (xs := [.int .i64 (h.op), .string (sb (h.field)), .string (sb (h.text)), .int .i64 (h.edits), .int .i64 (h.exact), .int .u64 (h.lo), .int .u64 (h.hi)]) (ys := [.int .i64 (h.op), .string (sb (h.field)), .string (sb (h.text)), .int .i64 0, .int .i64 0, .int .u64 0, .int .u64 0]) (r := ((h.op == h.op) && (((sb (h.field)).toList == (sb (h.field)).toList) && (((sb (h.text)).toList == (sb (h.text)).toList) && ((h.edits == 0) && ((h.exact == 0) && ((h.lo == 0) && ((h.hi == 0) && true)))))))) (by kernel_rfl) (noth_t h)) hS97 ?_
                  refine GoH.takeV 11 (.bool (nothP h true false false)) (.bool (nothP h true false false)) (some 92) (fun W_ => by kernel_rfl) rfl hS97 ?_
                  refine GoH.takeV 12 (.bool (nothP h true false false)) (.bool (nothP h true false false)) (some 2) (fun W_ => by kernel_rfl) rfl hS97 ?_
                  refine GoH.done [2] [(2, .bool (nothP h true false false))] (by kernel_rfl) (by kernel_rfl) ?_
                  have hM98 : Mem [] w0 w94 [] := hM96.sub (cn (cn (List.Sublist.refl _)))
                  refine GoS.ret (fn := Try.f19) (v := (.bool (nothP h true false false))) Try.func19 (by kernel_rfl) ?_
                  rw [hR]
                  have hall : rightL q.l = true := by rw [← tk_all (l := q.l) (i := i) (by omega)]; exact hRt
                  have hro := right_of hall
                  rw [← he] at hro
                  exact ⟨ret_bool (by rw [hro, node_word (by omega) (by have z := h62; simpa using z) (of_decide_eq_true (by have z := h68; simpa [wordsP] using z)) (by omega), if_neg (by omega)]), hM98.sub (List.nil_sublist _)⟩
                ·
                  have h89p : ¬ ((((List.length L) : Nat) : Int) = 0) := p_ne h89
                  refine GoH.takeV 5 (.bool ((((List.length L) : Nat) : Int) == 0)) (.bool false) (some 86) (fun W_ => by kernel_rfl) (congrArg Value.bool h89) hS88 ?_
                  refine GoH.skipF 6 (some 87) (by kernel_rfl) hS88 ?_
                  refine GoH.skipF 7 (some 88) (by kernel_rfl) hS88 ?_
                  refine GoH.skipF 8 (some 89) (by kernel_rfl) hS88 ?_
                  refine GoH.skipF 9 (some 90) (by kernel_rfl) hS88 ?_
                  refine GoH.skipF 10 (some 91) (by kernel_rfl) hS88 ?_
                  refine GoH.takeV 11 (.bool false) (.bool false) (some 92) (fun W_ => by kernel_rfl) rfl hS88 ?_
                  refine GoH.takeV 12 (.bool false) (.bool false) (some 2) (fun W_ => by kernel_rfl) rfl hS88 ?_
                  refine GoH.done [2] [(2, .bool false)] (by kernel_rfl) (by kernel_rfl) ?_
                  have hM99 : Mem [] w0 w85 [] := hM87.sub (cn (cn (List.Sublist.refl _)))
                  refine GoS.ret (fn := Try.f19) (v := (.bool false)) Try.func19 (by kernel_rfl) ?_
                  rw [hR]
                  have hall : rightL q.l = true := by rw [← tk_all (l := q.l) (i := i) (by omega)]; exact hRt
                  have hro := right_of hall
                  rw [← he] at hro
                  exact ⟨ret_bool (by rw [hro, node_many (by omega) (by omega)]), hM99.sub (List.nil_sublist _)⟩
        ·
          rw [h17] at h21; cases h21
      ·
        have h17p : ¬ (h.op = 1) := p_ne h17
        refine GoS.run [1, 5, 6, 24, 25] [.n, .n, .n, .n, .n] _ [.code (csub (cd Try.f19) [1,1,1,1,0,1,0,0,1,1,1]), .code (csub (cd Try.f19) [1,1,1,1,0,1,0,1]), .inBlock 2, .code (csub (cd Try.f19) [1,1,1,1,1])] [(1, pq b), (5, pq b2), (6, .int .i64 0), (24, .int .i64 (h.op)), (25, .bool (h.op == 2))] w7 (by kernel_rfl) .nil ?_
        refine GoS.cond (h.op == 2) [.code (csub (cd Try.f19) [1,1,1,1,0,1,0,0,1,1,1,0]), .code (csub (cd Try.f19) [1,1,1,1,0,1,0,1]), .inBlock 2, .code (csub (cd Try.f19) [1,1,1,1,1])] [.code (csub (cd Try.f19) [1,1,1,1,0,1,0,0,1,1,1,1]), .code (csub (cd Try.f19) [1,1,1,1,0,1,0,1]), .inBlock 2, .code (csub (cd Try.f19) [1,1,1,1,1])] (by kernel_rfl) (fun h18 => ?_) (fun h18 => ?_)
        ·
          have h18p : h.op = 2 := eq_of_beq h18
          refine GoS.run [1, 5, 6, 24, 25] [.n] _ [.code (csub (cd Try.f19) [1,1,1,1,0,1,0,1]), .inBlock 2, .code (csub (cd Try.f19) [1,1,1,1,1])] [(1, pq b), (5, pq b2), (6, .int .i64 0), (24, .int .i64 (h.op)), (25, .bool (h.op == 2))] w7 (by kernel_rfl) .nil ?_
          refine GoS.cond (h.op == 2) [.code (csub (cd Try.f19) [1,1,1,1,0,1,0,1,0]), .inBlock 2, .code (csub (cd Try.f19) [1,1,1,1,1])] [.code (csub (cd Try.f19) [1,1,1,1,0,1,0,1,1]), .inBlock 2, .code (csub (cd Try.f19) [1,1,1,1,1])] (by kernel_rfl) (fun h100 => ?_) (fun h100 => ?_)
          ·
            have h100p : h.op = 2 := eq_of_beq h100
            refine GoS.run [1, 5, 6] [.n] _ [.code (csub (cd Try.f19) [1,1,1,1,0,1,0,1,0,0]), .code (csub (cd Try.f19) [1,1,1,1,0,1,0,1,0,1]), .inBlock 2, .code (csub (cd Try.f19) [1,1,1,1,1])] [(1, pq b), (5, pq b2), (6, .int .i64 0)] w7 (by kernel_rfl) .nil ?_
            obtain ⟨w101, hw102⟩ : ∃ w_, (w7).drewN 1 = w_ := ⟨_, rfl⟩
            refine GoS.held (fun W_ => Mem [] w0 W_ [⟨25, 8, (obj b), 1, (qR h v)⟩]) [] 16 (by kernel_rfl) (by kernel_rfl) 8 (by kernel_rfl) ?_
            rw [hw102]
            have hM103 : Mem [] w0 w101 [⟨25, 8, (obj b2), 1, [.int .i64 (h.op), .string (sb ([])), .string (sb ([])), .int .i64 0, .int .i64 0, .int .u64 0, .int .u64 0, v]⟩, ⟨25, 8, (obj b), 1, (qR h v)⟩] := hw102 ▸ hM10.ext (Kept.drewN _ _ 1)
            have hS104 : Mem [] w0 w101 [⟨25, 8, (obj b), 1, (qR h v)⟩] := hM103.sub (cn (cc (List.Sublist.refl _)))
            refine GoH.takeV 0 (.pointer (some (⟨b, 1, none⟩))) (.pointer (some (⟨b, 1, none⟩))) (some 31) (fun W_ => by kernel_rfl) rfl hS104 ?_
            refine GoH.takeF 1 (.string (sb (h.field))) (fun W_ => (Instr.loadAt 9 (.pointer (some (⟨b, 1, none⟩)))).run Try.prog W_ = .ok (.string (sb (h.field))) W_) (some 32) (fun W_ => by kernel_rfl) (fun W_ hW_ => c_load pE9 (hW_.rd 0 rfl) (cel_obj b 1) rfl) hS104 ?_
            refine GoH.takeV 2 (.pointer (some (⟨b, 2, none⟩))) (.pointer (some (⟨b, 2, none⟩))) (some 33) (fun W_ => by kernel_rfl) rfl hS104 ?_
            refine GoH.takeF 3 (.string (sb (h.text))) (fun W_ => (Instr.loadAt 9 (.pointer (some (⟨b, 2, none⟩)))).run Try.prog W_ = .ok (.string (sb (h.text))) W_) (some 34) (fun W_ => by kernel_rfl) (fun W_ hW_ => c_load pE9 (hW_.rd 0 rfl) (cel_obj b 2) rfl) hS104 ?_
            refine GoH.takeV 4 (.pointer (some (⟨b2, 1, none⟩))) (.pointer (some (⟨b2, 1, none⟩))) (some 35) (fun W_ => by kernel_rfl) rfl hS104 ?_
            obtain ⟨w105, hr106, hM107⟩ := c_store (u := .string (sb (h.field))) (by kernel_rfl) hM103 0 rfl (cel_obj b2 1) (by decide) rfl rfl
            have hM108 : Mem [] w0 w105 [⟨25, 8, (obj b2), 1, [.int .i64 (h.op), .string (sb (h.field)), .string (sb ([])), .int .i64 0, .int .i64 0, .int .u64 0, .int .u64 0, v]⟩, ⟨25, 8, (obj b), 1, (qR h v)⟩] := hM107
            have hS109 : Mem [] w0 w105 [⟨25, 8, (obj b), 1, (qR h v)⟩] := hM108.sub (cn (cc (List.Sublist.refl _)))
            refine GoH.stepF 5 (undef) (w105) ((Instr.storeAt 9 (.pointer (some (⟨b2, 1, none⟩))) (.string (sb (h.field)))).run Try.prog w101 = .ok () w105 ∧ undef = undef) none (by kernel_rfl) (⟨hr106, rfl⟩) (.inr hS109) ?_
            refine GoH.takeV 6 (.pointer (some (⟨b2, 2, none⟩))) (.pointer (some (⟨b2, 2, none⟩))) (some 36) (fun W_ => by kernel_rfl) rfl hS109 ?_
            obtain ⟨w110, hr111, hM112⟩ := c_store (u := .string (sb (h.text))) (by kernel_rfl) hM108 0 rfl (cel_obj b2 2) (by decide) rfl rfl
            have hM113 : Mem [] w0 w110 [⟨25, 8, (obj b2), 1, [.int .i64 (h.op), .string (sb (h.field)), .string (sb (h.text)), .int .i64 0, .int .i64 0, .int .u64 0, .int .u64 0, v]⟩, ⟨25, 8, (obj b), 1, (qR h v)⟩] := hM112
            have hS114 : Mem [] w0 w110 [⟨25, 8, (obj b), 1, (qR h v)⟩] := hM113.sub (cn (cc (List.Sublist.refl _)))
            refine GoH.stepF 7 (undef) (w110) ((Instr.storeAt 9 (.pointer (some (⟨b2, 2, none⟩))) (.string (sb (h.text)))).run Try.prog w105 = .ok () w110 ∧ undef = undef) none (by kernel_rfl) (⟨hr111, rfl⟩) (.inr hS114) ?_
            refine GoH.done [1, 5, 6] [(1, pq b), (5, pq b2), (6, .int .i64 0)] (by kernel_rfl) (by kernel_rfl) ?_
            have o115 : (Instr.loadAt 3 (pq b)).run Try.prog w110 = .ok (.int .i64 (h.op)) w110 := c_load pE3 (hM113.rd 1 rfl) (cel_obj b 0) rfl
            refine GoS.run [1, 5, 6, 39] [.n, .n, .n, .n, .h (.int .i64 (h.op)), .n, .n] _ [.code (csub (cd Try.f19) [1,1,1,1,0,1,0,1,0,1,0,1]), .code (csub (cd Try.f19) [1,1,1,1,0,1,0,1,0,1,1]), .inBlock 2, .code (csub (cd Try.f19) [1,1,1,1,1])] [(1, pq b), (5, pq b2), (6, .int .i64 0), (39, .bool (h.op == 4))] w110 (by kernel_rfl) (.cons o115 .nil) ?_
            refine GoS.cond (h.op == 4) [.code (csub (cd Try.f19) [1,1,1,1,0,1,0,1,0,1,0,1,0]), .code (csub (cd Try.f19) [1,1,1,1,0,1,0,1,0,1,1]), .inBlock 2, .code (csub (cd Try.f19) [1,1,1,1,1])] [.code (csub (cd Try.f19) [1,1,1,1,0,1,0,1,0,1,0,1,1]), .code (csub (cd Try.f19) [1,1,1,1,0,1,0,1,0,1,1]), .inBlock 2, .code (csub (cd Try.f19) [1,1,1,1,1])] (by kernel_rfl) (fun h116 => ?_) (fun h116 => ?_)
            ·
              have h116p : h.op = 4 := eq_of_beq h116
              obtain ⟨w117, hw118⟩ : ∃ w_, (w110).drewN 1 = w_ := ⟨_, rfl⟩
              refine GoS.held (fun W_ => Mem [] w0 W_ [⟨25, 8, (obj b), 1, (qR h v)⟩]) [] 18 (by kernel_rfl) (by kernel_rfl) 8 (by kernel_rfl) ?_
              rw [hw118]
              have hM119 : Mem [] w0 w117 [⟨25, 8, (obj b2), 1, [.int .i64 (h.op), .string (sb (h.field)), .string (sb (h.text)), .int .i64 0, .int .i64 0, .int .u64 0, .int .u64 0, v]⟩, ⟨25, 8, (obj b), 1, (qR h v)⟩] := hw118 ▸ hM113.ext (Kept.drewN _ _ 1)
              have hS120 : Mem [] w0 w117 [⟨25, 8, (obj b), 1, (qR h v)⟩] := hM119.sub (cn (cc (List.Sublist.refl _)))
              refine GoH.takeV 0 (.pointer (some (⟨b, 3, none⟩))) (.pointer (some (⟨b, 3, none⟩))) (some 40) (fun W_ => by kernel_rfl) rfl hS120 ?_
              refine GoH.takeF 1 (.int .i64 (h.edits)) (fun W_ => (Instr.loadAt 3 (.pointer (some (⟨b, 3, none⟩)))).run Try.prog W_ = .ok (.int .i64 (h.edits)) W_) (some 41) (fun W_ => by kernel_rfl) (fun W_ hW_ => c_load pE3 (hW_.rd 0 rfl) (cel_obj b 3) rfl) hS120 ?_
              refine GoH.takeV 2 (.pointer (some (⟨b, 4, none⟩))) (.pointer (some (⟨b, 4, none⟩))) (some 42) (fun W_ => by kernel_rfl) rfl hS120 ?_
              refine GoH.takeF 3 (.int .i64 (h.exact)) (fun W_ => (Instr.loadAt 3 (.pointer (some (⟨b, 4, none⟩)))).run Try.prog W_ = .ok (.int .i64 (h.exact)) W_) (some 43) (fun W_ => by kernel_rfl) (fun W_ hW_ => c_load pE3 (hW_.rd 0 rfl) (cel_obj b 4) rfl) hS120 ?_
              refine GoH.takeV 4 (.pointer (some (⟨b2, 3, none⟩))) (.pointer (some (⟨b2, 3, none⟩))) (some 44) (fun W_ => by kernel_rfl) rfl hS120 ?_
              obtain ⟨w121, hr122, hM123⟩ := c_store (u := .int .i64 (h.edits)) (by kernel_rfl) hM119 0 rfl (cel_obj b2 3) (by decide) rfl rfl
              have hM124 : Mem [] w0 w121 [⟨25, 8, (obj b2), 1, [.int .i64 (h.op), .string (sb (h.field)), .string (sb (h.text)), .int .i64 (h.edits), .int .i64 0, .int .u64 0, .int .u64 0, v]⟩, ⟨25, 8, (obj b), 1, (qR h v)⟩] := hM123
              have hS125 : Mem [] w0 w121 [⟨25, 8, (obj b), 1, (qR h v)⟩] := hM124.sub (cn (cc (List.Sublist.refl _)))
              refine GoH.stepF 5 (undef) (w121) ((Instr.storeAt 3 (.pointer (some (⟨b2, 3, none⟩))) (.int .i64 (h.edits))).run Try.prog w117 = .ok () w121 ∧ undef = undef) none (by kernel_rfl) (⟨hr122, rfl⟩) (.inr hS125) ?_
              refine GoH.takeV 6 (.pointer (some (⟨b2, 4, none⟩))) (.pointer (some (⟨b2, 4, none⟩))) (some 45) (fun W_ => by kernel_rfl) rfl hS125 ?_
              obtain ⟨w126, hr127, hM128⟩ := c_store (u := .int .i64 (h.exact)) (by kernel_rfl) hM124 0 rfl (cel_obj b2 4) (by decide) rfl rfl
              have hM129 : Mem [] w0 w126 [⟨25, 8, (obj b2), 1, [.int .i64 (h.op), .string (sb (h.field)), .string (sb (h.text)), .int .i64 (h.edits), .int .i64 (h.exact), .int .u64 0, .int .u64 0, v]⟩, ⟨25, 8, (obj b), 1, (qR h v)⟩] := hM128
              have hS130 : Mem [] w0 w126 [⟨25, 8, (obj b), 1, (qR h v)⟩] := hM129.sub (cn (cc (List.Sublist.refl _)))
              refine GoH.stepF 7 (undef) (w126) ((Instr.storeAt 3 (.pointer (some (⟨b2, 4, none⟩))) (.int .i64 (h.exact))).run Try.prog w121 = .ok () w126 ∧ undef = undef) none (by kernel_rfl) (⟨hr127, rfl⟩) (.inr hS130) ?_
              refine GoH.done [1, 5, 6] [(1, pq b), (5, pq b2), (6, .int .i64 0)] (by kernel_rfl) (by kernel_rfl) ?_
              have o131 : (Instr.loadAt 9 (.pointer (some (⟨b, 1, none⟩)))).run Try.prog w126 = .ok (.string (sb (h.field))) w126 := c_load pE9 (hM129.rd 1 rfl) (cel_obj b 1) rfl
              refine GoS.run [1, 5, 6, 47] [.n, .n, .n, .h (.string (sb (h.field)))] _ [.inRegion (cops (csub (cd Try.f19) [1,1,1,1,0,1,0,1,0,1,1,0])) [2,3,4,5,6,7,8], .code (csub (cd Try.f19) [1,1,1,1,0,1,0,1,0,1,1,1]), .inBlock 2, .code (csub (cd Try.f19) [1,1,1,1,1])] [(1, pq b), (5, pq b2), (6, .int .i64 0), (47, .string (sb (h.field)))] w126 (by kernel_rfl) (.cons o131 .nil) ?_
              refine GoS.call [1, 5, 6] 22 #[.string (sb (h.field))] (some 48) [.inRegion (cops (csub (cd Try.f19) [1,1,1,1,0,1,0,1,0,1,1,0])) [3,4,5,6,7,8], .code (csub (cd Try.f19) [1,1,1,1,0,1,0,1,0,1,1,1]), .inBlock 2, .code (csub (cd Try.f19) [1,1,1,1,1])] [(1, pq b), (5, pq b2), (6, .int .i64 0)] (by kernel_rfl) (name_c (h.field) (by rw [he]; omega) w126) ?_
              rintro _ _ ⟨rfl, rfl⟩
              refine ⟨_, rfl, ?_⟩
              refine GoS.run [1, 5, 6, 50] [.n, .n] _ [.inRegion (cops (csub (cd Try.f19) [1,1,1,1,0,1,0,1,0,1,1,0])) [5,6,7,8], .code (csub (cd Try.f19) [1,1,1,1,0,1,0,1,0,1,1,1]), .inBlock 2, .code (csub (cd Try.f19) [1,1,1,1,1])] [(1, pq b), (5, pq b2), (6, .int .i64 0), (50, .bool (!(nameP (h.field))))] w126 (by kernel_rfl) .nil ?_
              refine GoS.fork 50 (!(nameP (h.field))) (by kernel_rfl) (fun h132 => ?_) (fun h132 => ?_)
              ·
                refine GoS.run [1, 5, 6, 54] [.n, .n, .n, .n] _ [.inRegion (cops (csub (cd Try.f19) [1,1,1,1,0,1,0,1,0,1,1,0])) [], .code (csub (cd Try.f19) [1,1,1,1,0,1,0,1,0,1,1,1]), .inBlock 2, .code (csub (cd Try.f19) [1,1,1,1,1])] [(1, pq b), (5, pq b2), (6, .int .i64 0), (54, .bool true)] w126 (by kernel_rfl) .nil ?_
                have hM137 : Mem [] w0 w126 [] := hM129.sub (cn (cn (List.Sublist.refl _)))
                refine GoS.run [2] [.n, .n, .n, .n, .n, .n] _ [.code (csub (cd Try.f19) [1,1,1,1,0,1,0,1,0,1,1,1,0,1]), .inBlock 2, .code (csub (cd Try.f19) [1,1,1,1,1])] [(2, .bool false)] w126 (by kernel_rfl) .nil ?_
                refine GoS.ret (fn := Try.f19) (v := (.bool false)) Try.func19 (by kernel_rfl) ?_
                rw [hR]
                have hall : rightL q.l = true := by rw [← tk_all (l := q.l) (i := i) (by omega)]; exact hRt
                have hro := right_of hall
                rw [← he] at hro
                exact ⟨ret_bool (by rw [hro, node_name (by omega) (by have z := h132; simpa using z)]), hM137.sub (List.nil_sublist _)⟩
              ·
                have o133 : (Instr.loadAt 25 (pq b)).run Try.prog w126 = .ok ((qA h v)) w126 := c_loads (ys := (qR h v)) aE25 (hM129.rd 1 rfl) (cel_obj b 0) rfl (by intro j u hj; match j, hj with | 0, hj => exact hj | 1, hj => exact hj | 2, hj => exact hj | 3, hj => exact hj | 4, hj => exact hj | 5, hj => exact hj | 6, hj => exact hj | 7, hj => exact hj | n + 8, hj => cases hj)
                refine GoS.run [1, 5, 6, 50, 51] [.h ((qA h v))] _ [.inRegion (cops (csub (cd Try.f19) [1,1,1,1,0,1,0,1,0,1,1,0])) [6,7,8], .code (csub (cd Try.f19) [1,1,1,1,0,1,0,1,0,1,1,1]), .inBlock 2, .code (csub (cd Try.f19) [1,1,1,1,1])] [(1, pq b), (5, pq b2), (6, .int .i64 0), (50, .bool false), (51, (qA h v))] w126 (by kernel_rfl) (.cons o133 .nil) ?_
                refine GoS.call [1, 5, 6, 50] 23 #[(qA h v)] (some 52) [.inRegion (cops (csub (cd Try.f19) [1,1,1,1,0,1,0,1,0,1,1,0])) [7,8], .code (csub (cd Try.f19) [1,1,1,1,0,1,0,1,0,1,1,1]), .inBlock 2, .code (csub (cd Try.f19) [1,1,1,1,1])] [(1, pq b), (5, pq b2), (6, .int .i64 0), (50, .bool false)] (by kernel_rfl) (words_c q h he v (hq.kept hM129.kept) (by omega)) ?_
                rintro _ w134 ⟨rfl, m135⟩
                refine ⟨_, rfl, ?_⟩
                have hM136 := Mem.join hM129 m135
                refine GoS.run [1, 5, 6, 54] [.n, .n] _ [.inRegion (cops (csub (cd Try.f19) [1,1,1,1,0,1,0,1,0,1,1,0])) [], .code (csub (cd Try.f19) [1,1,1,1,0,1,0,1,0,1,1,1]), .inBlock 2, .code (csub (cd Try.f19) [1,1,1,1,1])] [(1, pq b), (5, pq b2), (6, .int .i64 0), (54, .bool (!(wordsP h)))] w134 (by kernel_rfl) .nil ?_
                refine GoS.run [1, 5, 6, 54] [.n] _ [.code (csub (cd Try.f19) [1,1,1,1,0,1,0,1,0,1,1,1]), .inBlock 2, .code (csub (cd Try.f19) [1,1,1,1,1])] [(1, pq b), (5, pq b2), (6, .int .i64 0), (54, .bool (!(wordsP h)))] w134 (by kernel_rfl) .nil ?_
                refine GoS.cond (!(wordsP h)) [.code (csub (cd Try.f19) [1,1,1,1,0,1,0,1,0,1,1,1,0]), .inBlock 2, .code (csub (cd Try.f19) [1,1,1,1,1])] [.code (csub (cd Try.f19) [1,1,1,1,0,1,0,1,0,1,1,1,1]), .inBlock 2, .code (csub (cd Try.f19) [1,1,1,1,1])] (by kernel_rfl) (fun h138 => ?_) (fun h138 => ?_)
                ·
                  have hM139 : Mem [] w0 w134 [] := hM136.sub (cn (cn (List.Sublist.refl _)))
                  refine GoS.run [2] [.n, .n, .n, .n] _ [.code (csub (cd Try.f19) [1,1,1,1,0,1,0,1,0,1,1,1,0,1]), .inBlock 2, .code (csub (cd Try.f19) [1,1,1,1,1])] [(2, .bool false)] w134 (by kernel_rfl) .nil ?_
                  refine GoS.ret (fn := Try.f19) (v := (.bool false)) Try.func19 (by kernel_rfl) ?_
                  rw [hR]
                  have hall : rightL q.l = true := by rw [← tk_all (l := q.l) (i := i) (by omega)]; exact hRt
                  have hro := right_of hall
                  rw [← he] at hro
                  exact ⟨ret_bool (by rw [hro, node_noword (by omega) (of_decide_eq_false (by have z := h138; simpa [wordsP] using z))]), hM139.sub (List.nil_sublist _)⟩
                ·
                  refine GoS.run [1, 5, 6] [.n] _ [.inBlock 2, .code (csub (cd Try.f19) [1,1,1,1,1])] [(1, pq b), (5, pq b2), (6, .int .i64 0)] w134 (by kernel_rfl) .nil ?_
                  refine GoS.run [1, 5, 6] [.n, .n] _ [.code (csub (cd Try.f19) [1,1,1,1,1,0]), .code (csub (cd Try.f19) [1,1,1,1,1,1])] [(1, pq b), (5, pq b2), (6, .int .i64 0)] w134 (by kernel_rfl) .nil ?_
                  obtain ⟨w149, hw150⟩ : ∃ w_, (w134).drewN 1 = w_ := ⟨_, rfl⟩
                  refine GoS.held (fun W_ => Mem [] w0 W_ [⟨25, 8, (obj b2), 1, [.int .i64 (h.op), .string (sb (h.field)), .string (sb (h.text)), .int .i64 (h.edits), .int .i64 (h.exact), .int .u64 0, .int .u64 0, v]⟩, ⟨25, 8, (obj b), 1, (qR h v)⟩]) [] 31 (by kernel_rfl) (by kernel_rfl) 13 (by kernel_rfl) ?_
                  rw [hw150]
                  have hM151 : Mem [] w0 w149 [⟨25, 8, (obj b2), 1, [.int .i64 (h.op), .string (sb (h.field)), .string (sb (h.text)), .int .i64 (h.edits), .int .i64 (h.exact), .int .u64 0, .int .u64 0, v]⟩, ⟨25, 8, (obj b), 1, (qR h v)⟩] := hw150 ▸ hM136.ext (Kept.drewN _ _ 1)
                  have hS152 : Mem [] w0 w149 [⟨25, 8, (obj b2), 1, [.int .i64 (h.op), .string (sb (h.field)), .string (sb (h.text)), .int .i64 (h.edits), .int .i64 (h.exact), .int .u64 0, .int .u64 0, v]⟩, ⟨25, 8, (obj b), 1, (qR h v)⟩] := hM151.sub (cc (cc (List.Sublist.refl _)))
                  refine GoH.takeV 0 (.pointer (some (⟨b, 7, none⟩))) (.pointer (some (⟨b, 7, none⟩))) (some 81) (fun W_ => by kernel_rfl) rfl hS152 ?_
                  refine GoH.takeF 1 (v) (fun W_ => (Instr.loadAt 23 (.pointer (some (⟨b, 7, none⟩)))).run Try.prog W_ = .ok (v) W_) (some 82) (fun W_ => by kernel_rfl) (fun W_ hW_ => c_load pE23 (hW_.rd 1 rfl) (cel_obj b 7) rfl) hS152 ?_
                  refine GoH.takeF 2 (.int .i64 (((List.length L) : Nat) : Int)) (fun W_ => (Builtin.len_ #[23] 3 #[v]).run Try.prog W_ = .ok (.int .i64 (((List.length L) : Nat) : Int)) W_) (some 83) (fun W_ => by kernel_rfl) (fun W_ hW_ => f_slen sT23 (hr.kept0 hW_.kept) 3 _) hS152 ?_
                  refine GoH.takeV 3 (.int .i64 0) (.int .i64 0) (some 84) (fun W_ => by kernel_rfl) rfl hS152 ?_
                  refine GoH.takeV 4 (.bool ((((List.length L) : Nat) : Int) == 0)) (.bool ((((List.length L) : Nat) : Int) == 0)) (some 85) (fun W_ => by kernel_rfl) rfl hS152 ?_
                  rcases Bool.eq_false_or_eq_true ((((List.length L) : Nat) : Int) == 0) with h153 | h153
                  ·
                    have h153p : (((List.length L) : Nat) : Int) = 0 := eq_of_beq h153
                    refine GoH.takeV 5 (.bool ((((List.length L) : Nat) : Int) == 0)) (.bool true) (some 86) (fun W_ => by kernel_rfl) (congrArg Value.bool h153) hS152 ?_
                    refine GoH.takeF 6 ((qA h v)) (fun W_ => (Instr.loadAt 25 (pq b)).run Try.prog W_ = .ok ((qA h v)) W_) (some 87) (fun W_ => by kernel_rfl) (fun W_ hW_ => c_loads (ys := (qR h v)) aE25 (hW_.rd 1 rfl) (cel_obj b 0) rfl (by intro j u hj; match j, hj with | 0, hj => exact hj | 1, hj => exact hj | 2, hj => exact hj | 3, hj => exact hj | 4, hj => exact hj | 5, hj => exact hj | 6, hj => exact hj | 7, hj => exact hj | n + 8, hj => cases hj)) hS152 ?_
                    refine GoH.takeF 8 (.agg #[.int .i64 (h.op), .string (sb (h.field)), .string (sb (h.text)), .int .i64 (h.edits), .int .i64 (h.exact), .int .u64 0, .int .u64 0, v]) (fun W_ => (Instr.loadAt 25 (pq b2)).run Try.prog W_ = .ok (.agg #[.int .i64 (h.op), .string (sb (h.field)), .string (sb (h.text)), .int .i64 (h.edits), .int .i64 (h.exact), .int .u64 0, .int .u64 0, v]) W_) (some 89) (fun W_ => by kernel_rfl) (fun W_ hW_ => c_loads (ys := [.int .i64 (h.op), .string (sb (h.field)), .string (sb (h.text)), .int .i64 (h.edits), .int .i64 (h.exact), .int .u64 0, .int .u64 0, v]) aE25 (hW_.rd 0 rfl) (cel_obj b2 0) rfl (by intro j u hj; match j, hj with | 0, hj => exact hj | 1, hj => exact hj | 2, hj => exact hj | 3, hj => exact hj | 4, hj => exact hj | 5, hj => exact hj | 6, hj => exact hj | 7, hj => exact hj | n + 8, hj => cases hj)) hS152 ?_
                    refine GoH.callF 7 21 #[(qA h v)] (some 88) (by kernel_rfl) (flat_c (w := w149) h v) ?_
                    rintro _ w154 ⟨rfl, m155⟩
                    have hM156 := Mem.join hM151 m155
                    have hS157 : Mem [] w0 w154 [⟨25, 8, (obj b2), 1, [.int .i64 (h.op), .string (sb (h.field)), .string (sb (h.text)), .int .i64 (h.edits), .int .i64 (h.exact), .int .u64 0, .int .u64 0, v]⟩, ⟨25, 8, (obj b), 1, (qR h v)⟩] := hM156.sub (cc (cc (List.Sublist.refl _)))
                    refine ⟨(qH h), rfl, .inr hS157, ?_⟩
                    refine GoH.callF 9 21 #[.agg #[.int .i64 (h.op), .string (sb (h.field)), .string (sb (h.text)), .int .i64 (h.edits), .int .i64 (h.exact), .int .u64 0, .int .u64 0, v]] (some 90) (by kernel_rfl) (flat_c (w := w154) (Hd.mk (h.op) (h.field) (h.text) (h.edits) (h.exact) 0 0) v) ?_
                    rintro _ w158 ⟨rfl, m159⟩
                    have hM160 := Mem.join hM156 m159
                    have hS161 : Mem [] w0 w158 [⟨25, 8, (obj b2), 1, [.int .i64 (h.op), .string (sb (h.field)), .string (sb (h.text)), .int .i64 (h.edits), .int .i64 (h.exact), .int .u64 0, .int .u64 0, v]⟩, ⟨25, 8, (obj b), 1, (qR h v)⟩] := hM160.sub (cc (cc (List.Sublist.refl _)))
                    refine ⟨.agg #[.int .i64 (h.op), .string (sb (h.field)), .string (sb (h.text)), .int .i64 (h.edits), .int .i64 (h.exact), .int .u64 0, .int .u64 0], rfl, .inr hS161, ?_⟩
                    refine GoH.takeF 10 (.bool (nothP h true true false)) (fun W_ => Try.prog.eqGuardType Try.prog.depth 38 = false ∧ (binOp .eql 38 ((qH h)) (.agg #[.int .i64 (h.op), .string (sb (h.field)), .string (sb (h.text)), .int .i64 (h.edits), .int .i64 (h.exact), .int .u64 0, .int .u64 0])).run Try.prog W_ = .ok (.bool (nothP h true true false)) W_) (some 91) (fun W_ => by kernel_rfl) (fun W_ hW_ => f_ageq eT38 (xs := [.int .i64 (h.op), .string (sb (h.field)), .string (sb (h.text)), .int .i64 (h.edits), .int .i64 (h.exact), .int .u64 (h.lo), .int .u64 (h.hi)]) (ys := [.int .i64 (h.op), .string (sb (h.field)), .string (sb (h.text)), .int .i64 (h.edits), .int .i64 (h.exact), .int .u64 0, .int .u64 0]) (r := ((h.op == h.op) && (((sb (h.field)).toList == (sb (h.field)).toList) && (((sb (h.text)).toList == (sb (h.text)).toList) && ((h.edits == h.edits) && ((h.exact == h.exact) && ((h.lo == 0) && ((h.hi == 0) && true)))))))) (by kernel_rfl) (noth_f h)) hS161 ?_
                    refine GoH.takeV 11 (.bool (nothP h true true false)) (.bool (nothP h true true false)) (some 92) (fun W_ => by kernel_rfl) rfl hS161 ?_
                    refine GoH.takeV 12 (.bool (nothP h true true false)) (.bool (nothP h true true false)) (some 2) (fun W_ => by kernel_rfl) rfl hS161 ?_
                    refine GoH.done [2] [(2, .bool (nothP h true true false))] (by kernel_rfl) (by kernel_rfl) ?_
                    have hM162 : Mem [] w0 w158 [] := hM160.sub (cn (cn (List.Sublist.refl _)))
                    refine GoS.ret (fn := Try.f19) (v := (.bool (nothP h true true false))) Try.func19 (by kernel_rfl) ?_
                    rw [hR]
                    have hall : rightL q.l = true := by rw [← tk_all (l := q.l) (i := i) (by omega)]; exact hRt
                    have hro := right_of hall
                    rw [← he] at hro
                    exact ⟨ret_bool (by rw [hro, node_word (by omega) (by have z := h132; simpa using z) (of_decide_eq_true (by have z := h138; simpa [wordsP] using z)) (by omega), if_pos (by omega)]), hM162.sub (List.nil_sublist _)⟩
                  ·
                    have h153p : ¬ ((((List.length L) : Nat) : Int) = 0) := p_ne h153
                    refine GoH.takeV 5 (.bool ((((List.length L) : Nat) : Int) == 0)) (.bool false) (some 86) (fun W_ => by kernel_rfl) (congrArg Value.bool h153) hS152 ?_
                    refine GoH.skipF 6 (some 87) (by kernel_rfl) hS152 ?_
                    refine GoH.skipF 7 (some 88) (by kernel_rfl) hS152 ?_
                    refine GoH.skipF 8 (some 89) (by kernel_rfl) hS152 ?_
                    refine GoH.skipF 9 (some 90) (by kernel_rfl) hS152 ?_
                    refine GoH.skipF 10 (some 91) (by kernel_rfl) hS152 ?_
                    refine GoH.takeV 11 (.bool false) (.bool false) (some 92) (fun W_ => by kernel_rfl) rfl hS152 ?_
                    refine GoH.takeV 12 (.bool false) (.bool false) (some 2) (fun W_ => by kernel_rfl) rfl hS152 ?_
                    refine GoH.done [2] [(2, .bool false)] (by kernel_rfl) (by kernel_rfl) ?_
                    have hM163 : Mem [] w0 w149 [] := hM151.sub (cn (cn (List.Sublist.refl _)))
                    refine GoS.ret (fn := Try.f19) (v := (.bool false)) Try.func19 (by kernel_rfl) ?_
                    rw [hR]
                    have hall : rightL q.l = true := by rw [← tk_all (l := q.l) (i := i) (by omega)]; exact hRt
                    have hro := right_of hall
                    rw [← he] at hro
                    exact ⟨ret_bool (by rw [hro, node_many (by omega) (by omega)]), hM163.sub (List.nil_sublist _)⟩
            ·
              have h116p : ¬ (h.op = 4) := p_ne h116
              refine GoS.run [1, 5, 6] [.n] _ [.code (csub (cd Try.f19) [1,1,1,1,0,1,0,1,0,1,1]), .inBlock 2, .code (csub (cd Try.f19) [1,1,1,1,1])] [(1, pq b), (5, pq b2), (6, .int .i64 0)] w110 (by kernel_rfl) .nil ?_
              have o140 : (Instr.loadAt 9 (.pointer (some (⟨b, 1, none⟩)))).run Try.prog w110 = .ok (.string (sb (h.field))) w110 := c_load pE9 (hM113.rd 1 rfl) (cel_obj b 1) rfl
              refine GoS.run [1, 5, 6, 47] [.n, .n, .n, .h (.string (sb (h.field)))] _ [.inRegion (cops (csub (cd Try.f19) [1,1,1,1,0,1,0,1,0,1,1,0])) [2,3,4,5,6,7,8], .code (csub (cd Try.f19) [1,1,1,1,0,1,0,1,0,1,1,1]), .inBlock 2, .code (csub (cd Try.f19) [1,1,1,1,1])] [(1, pq b), (5, pq b2), (6, .int .i64 0), (47, .string (sb (h.field)))] w110 (by kernel_rfl) (.cons o140 .nil) ?_
              refine GoS.call [1, 5, 6] 22 #[.string (sb (h.field))] (some 48) [.inRegion (cops (csub (cd Try.f19) [1,1,1,1,0,1,0,1,0,1,1,0])) [3,4,5,6,7,8], .code (csub (cd Try.f19) [1,1,1,1,0,1,0,1,0,1,1,1]), .inBlock 2, .code (csub (cd Try.f19) [1,1,1,1,1])] [(1, pq b), (5, pq b2), (6, .int .i64 0)] (by kernel_rfl) (name_c (h.field) (by rw [he]; omega) w110) ?_
              rintro _ _ ⟨rfl, rfl⟩
              refine ⟨_, rfl, ?_⟩
              refine GoS.run [1, 5, 6, 50] [.n, .n] _ [.inRegion (cops (csub (cd Try.f19) [1,1,1,1,0,1,0,1,0,1,1,0])) [5,6,7,8], .code (csub (cd Try.f19) [1,1,1,1,0,1,0,1,0,1,1,1]), .inBlock 2, .code (csub (cd Try.f19) [1,1,1,1,1])] [(1, pq b), (5, pq b2), (6, .int .i64 0), (50, .bool (!(nameP (h.field))))] w110 (by kernel_rfl) .nil ?_
              refine GoS.fork 50 (!(nameP (h.field))) (by kernel_rfl) (fun h141 => ?_) (fun h141 => ?_)
              ·
                refine GoS.run [1, 5, 6, 54] [.n, .n, .n, .n] _ [.inRegion (cops (csub (cd Try.f19) [1,1,1,1,0,1,0,1,0,1,1,0])) [], .code (csub (cd Try.f19) [1,1,1,1,0,1,0,1,0,1,1,1]), .inBlock 2, .code (csub (cd Try.f19) [1,1,1,1,1])] [(1, pq b), (5, pq b2), (6, .int .i64 0), (54, .bool true)] w110 (by kernel_rfl) .nil ?_
                have hM146 : Mem [] w0 w110 [] := hM113.sub (cn (cn (List.Sublist.refl _)))
                refine GoS.run [2] [.n, .n, .n, .n, .n, .n] _ [.code (csub (cd Try.f19) [1,1,1,1,0,1,0,1,0,1,1,1,0,1]), .inBlock 2, .code (csub (cd Try.f19) [1,1,1,1,1])] [(2, .bool false)] w110 (by kernel_rfl) .nil ?_
                refine GoS.ret (fn := Try.f19) (v := (.bool false)) Try.func19 (by kernel_rfl) ?_
                rw [hR]
                have hall : rightL q.l = true := by rw [← tk_all (l := q.l) (i := i) (by omega)]; exact hRt
                have hro := right_of hall
                rw [← he] at hro
                exact ⟨ret_bool (by rw [hro, node_name (by omega) (by have z := h141; simpa using z)]), hM146.sub (List.nil_sublist _)⟩
              ·
                have o142 : (Instr.loadAt 25 (pq b)).run Try.prog w110 = .ok ((qA h v)) w110 := c_loads (ys := (qR h v)) aE25 (hM113.rd 1 rfl) (cel_obj b 0) rfl (by intro j u hj; match j, hj with | 0, hj => exact hj | 1, hj => exact hj | 2, hj => exact hj | 3, hj => exact hj | 4, hj => exact hj | 5, hj => exact hj | 6, hj => exact hj | 7, hj => exact hj | n + 8, hj => cases hj)
                refine GoS.run [1, 5, 6, 50, 51] [.h ((qA h v))] _ [.inRegion (cops (csub (cd Try.f19) [1,1,1,1,0,1,0,1,0,1,1,0])) [6,7,8], .code (csub (cd Try.f19) [1,1,1,1,0,1,0,1,0,1,1,1]), .inBlock 2, .code (csub (cd Try.f19) [1,1,1,1,1])] [(1, pq b), (5, pq b2), (6, .int .i64 0), (50, .bool false), (51, (qA h v))] w110 (by kernel_rfl) (.cons o142 .nil) ?_
                refine GoS.call [1, 5, 6, 50] 23 #[(qA h v)] (some 52) [.inRegion (cops (csub (cd Try.f19) [1,1,1,1,0,1,0,1,0,1,1,0])) [7,8], .code (csub (cd Try.f19) [1,1,1,1,0,1,0,1,0,1,1,1]), .inBlock 2, .code (csub (cd Try.f19) [1,1,1,1,1])] [(1, pq b), (5, pq b2), (6, .int .i64 0), (50, .bool false)] (by kernel_rfl) (words_c q h he v (hq.kept hM113.kept) (by omega)) ?_
                rintro _ w143 ⟨rfl, m144⟩
                refine ⟨_, rfl, ?_⟩
                have hM145 := Mem.join hM113 m144
                refine GoS.run [1, 5, 6, 54] [.n, .n] _ [.inRegion (cops (csub (cd Try.f19) [1,1,1,1,0,1,0,1,0,1,1,0])) [], .code (csub (cd Try.f19) [1,1,1,1,0,1,0,1,0,1,1,1]), .inBlock 2, .code (csub (cd Try.f19) [1,1,1,1,1])] [(1, pq b), (5, pq b2), (6, .int .i64 0), (54, .bool (!(wordsP h)))] w143 (by kernel_rfl) .nil ?_
                refine GoS.run [1, 5, 6, 54] [.n] _ [.code (csub (cd Try.f19) [1,1,1,1,0,1,0,1,0,1,1,1]), .inBlock 2, .code (csub (cd Try.f19) [1,1,1,1,1])] [(1, pq b), (5, pq b2), (6, .int .i64 0), (54, .bool (!(wordsP h)))] w143 (by kernel_rfl) .nil ?_
                refine GoS.cond (!(wordsP h)) [.code (csub (cd Try.f19) [1,1,1,1,0,1,0,1,0,1,1,1,0]), .inBlock 2, .code (csub (cd Try.f19) [1,1,1,1,1])] [.code (csub (cd Try.f19) [1,1,1,1,0,1,0,1,0,1,1,1,1]), .inBlock 2, .code (csub (cd Try.f19) [1,1,1,1,1])] (by kernel_rfl) (fun h147 => ?_) (fun h147 => ?_)
                ·
                  have hM148 : Mem [] w0 w143 [] := hM145.sub (cn (cn (List.Sublist.refl _)))
                  refine GoS.run [2] [.n, .n, .n, .n] _ [.code (csub (cd Try.f19) [1,1,1,1,0,1,0,1,0,1,1,1,0,1]), .inBlock 2, .code (csub (cd Try.f19) [1,1,1,1,1])] [(2, .bool false)] w143 (by kernel_rfl) .nil ?_
                  refine GoS.ret (fn := Try.f19) (v := (.bool false)) Try.func19 (by kernel_rfl) ?_
                  rw [hR]
                  have hall : rightL q.l = true := by rw [← tk_all (l := q.l) (i := i) (by omega)]; exact hRt
                  have hro := right_of hall
                  rw [← he] at hro
                  exact ⟨ret_bool (by rw [hro, node_noword (by omega) (of_decide_eq_false (by have z := h147; simpa [wordsP] using z))]), hM148.sub (List.nil_sublist _)⟩
                ·
                  refine GoS.run [1, 5, 6] [.n] _ [.inBlock 2, .code (csub (cd Try.f19) [1,1,1,1,1])] [(1, pq b), (5, pq b2), (6, .int .i64 0)] w143 (by kernel_rfl) .nil ?_
                  refine GoS.run [1, 5, 6] [.n, .n] _ [.code (csub (cd Try.f19) [1,1,1,1,1,0]), .code (csub (cd Try.f19) [1,1,1,1,1,1])] [(1, pq b), (5, pq b2), (6, .int .i64 0)] w143 (by kernel_rfl) .nil ?_
                  obtain ⟨w164, hw165⟩ : ∃ w_, (w143).drewN 1 = w_ := ⟨_, rfl⟩
                  refine GoS.held (fun W_ => Mem [] w0 W_ [⟨25, 8, (obj b2), 1, [.int .i64 (h.op), .string (sb (h.field)), .string (sb (h.text)), .int .i64 0, .int .i64 0, .int .u64 0, .int .u64 0, v]⟩, ⟨25, 8, (obj b), 1, (qR h v)⟩]) [] 31 (by kernel_rfl) (by kernel_rfl) 13 (by kernel_rfl) ?_
                  rw [hw165]
                  have hM166 : Mem [] w0 w164 [⟨25, 8, (obj b2), 1, [.int .i64 (h.op), .string (sb (h.field)), .string (sb (h.text)), .int .i64 0, .int .i64 0, .int .u64 0, .int .u64 0, v]⟩, ⟨25, 8, (obj b), 1, (qR h v)⟩] := hw165 ▸ hM145.ext (Kept.drewN _ _ 1)
                  have hS167 : Mem [] w0 w164 [⟨25, 8, (obj b2), 1, [.int .i64 (h.op), .string (sb (h.field)), .string (sb (h.text)), .int .i64 0, .int .i64 0, .int .u64 0, .int .u64 0, v]⟩, ⟨25, 8, (obj b), 1, (qR h v)⟩] := hM166.sub (cc (cc (List.Sublist.refl _)))
                  refine GoH.takeV 0 (.pointer (some (⟨b, 7, none⟩))) (.pointer (some (⟨b, 7, none⟩))) (some 81) (fun W_ => by kernel_rfl) rfl hS167 ?_
                  refine GoH.takeF 1 (v) (fun W_ => (Instr.loadAt 23 (.pointer (some (⟨b, 7, none⟩)))).run Try.prog W_ = .ok (v) W_) (some 82) (fun W_ => by kernel_rfl) (fun W_ hW_ => c_load pE23 (hW_.rd 1 rfl) (cel_obj b 7) rfl) hS167 ?_
                  refine GoH.takeF 2 (.int .i64 (((List.length L) : Nat) : Int)) (fun W_ => (Builtin.len_ #[23] 3 #[v]).run Try.prog W_ = .ok (.int .i64 (((List.length L) : Nat) : Int)) W_) (some 83) (fun W_ => by kernel_rfl) (fun W_ hW_ => f_slen sT23 (hr.kept0 hW_.kept) 3 _) hS167 ?_
                  refine GoH.takeV 3 (.int .i64 0) (.int .i64 0) (some 84) (fun W_ => by kernel_rfl) rfl hS167 ?_
                  refine GoH.takeV 4 (.bool ((((List.length L) : Nat) : Int) == 0)) (.bool ((((List.length L) : Nat) : Int) == 0)) (some 85) (fun W_ => by kernel_rfl) rfl hS167 ?_
                  rcases Bool.eq_false_or_eq_true ((((List.length L) : Nat) : Int) == 0) with h168 | h168
                  ·
                    have h168p : (((List.length L) : Nat) : Int) = 0 := eq_of_beq h168
                    refine GoH.takeV 5 (.bool ((((List.length L) : Nat) : Int) == 0)) (.bool true) (some 86) (fun W_ => by kernel_rfl) (congrArg Value.bool h168) hS167 ?_
                    refine GoH.takeF 6 ((qA h v)) (fun W_ => (Instr.loadAt 25 (pq b)).run Try.prog W_ = .ok ((qA h v)) W_) (some 87) (fun W_ => by kernel_rfl) (fun W_ hW_ => c_loads (ys := (qR h v)) aE25 (hW_.rd 1 rfl) (cel_obj b 0) rfl (by intro j u hj; match j, hj with | 0, hj => exact hj | 1, hj => exact hj | 2, hj => exact hj | 3, hj => exact hj | 4, hj => exact hj | 5, hj => exact hj | 6, hj => exact hj | 7, hj => exact hj | n + 8, hj => cases hj)) hS167 ?_
                    refine GoH.takeF 8 (.agg #[.int .i64 (h.op), .string (sb (h.field)), .string (sb (h.text)), .int .i64 0, .int .i64 0, .int .u64 0, .int .u64 0, v]) (fun W_ => (Instr.loadAt 25 (pq b2)).run Try.prog W_ = .ok (.agg #[.int .i64 (h.op), .string (sb (h.field)), .string (sb (h.text)), .int .i64 0, .int .i64 0, .int .u64 0, .int .u64 0, v]) W_) (some 89) (fun W_ => by kernel_rfl) (fun W_ hW_ => c_loads (ys := [.int .i64 (h.op), .string (sb (h.field)), .string (sb (h.text)), .int .i64 0, .int .i64 0, .int .u64 0, .int .u64 0, v]) aE25 (hW_.rd 0 rfl) (cel_obj b2 0) rfl (by intro j u hj; match j, hj with | 0, hj => exact hj | 1, hj => exact hj | 2, hj => exact hj | 3, hj => exact hj | 4, hj => exact hj | 5, hj => exact hj | 6, hj => exact hj | 7, hj => exact hj | n + 8, hj => cases hj)) hS167 ?_
                    refine GoH.callF 7 21 #[(qA h v)] (some 88) (by kernel_rfl) (flat_c (w := w164) h v) ?_
                    rintro _ w169 ⟨rfl, m170⟩
                    have hM171 := Mem.join hM166 m170
                    have hS172 : Mem [] w0 w169 [⟨25, 8, (obj b2), 1, [.int .i64 (h.op), .string (sb (h.field)), .string (sb (h.text)), .int .i64 0, .int .i64 0, .int .u64 0, .int .u64 0, v]⟩, ⟨25, 8, (obj b), 1, (qR h v)⟩] := hM171.sub (cc (cc (List.Sublist.refl _)))
                    refine ⟨(qH h), rfl, .inr hS172, ?_⟩
                    refine GoH.callF 9 21 #[.agg #[.int .i64 (h.op), .string (sb (h.field)), .string (sb (h.text)), .int .i64 0, .int .i64 0, .int .u64 0, .int .u64 0, v]] (some 90) (by kernel_rfl) (flat_c (w := w169) (Hd.mk (h.op) (h.field) (h.text) 0 0 0 0) v) ?_
                    rintro _ w173 ⟨rfl, m174⟩
                    have hM175 := Mem.join hM171 m174
                    have hS176 : Mem [] w0 w173 [⟨25, 8, (obj b2), 1, [.int .i64 (h.op), .string (sb (h.field)), .string (sb (h.text)), .int .i64 0, .int .i64 0, .int .u64 0, .int .u64 0, v]⟩, ⟨25, 8, (obj b), 1, (qR h v)⟩] := hM175.sub (cc (cc (List.Sublist.refl _)))
                    refine ⟨.agg #[.int .i64 (h.op), .string (sb (h.field)), .string (sb (h.text)), .int .i64 0, .int .i64 0, .int .u64 0, .int .u64 0], rfl, .inr hS176, ?_⟩
                    refine GoH.takeF 10 (.bool (nothP h true false false)) (fun W_ => Try.prog.eqGuardType Try.prog.depth 38 = false ∧ (binOp .eql 38 ((qH h)) (.agg #[.int .i64 (h.op), .string (sb (h.field)), .string (sb (h.text)), .int .i64 0, .int .i64 0, .int .u64 0, .int .u64 0])).run Try.prog W_ = .ok (.bool (nothP h true false false)) W_) (some 91) (fun W_ => by kernel_rfl) (fun W_ hW_ => f_ageq eT38 (xs := [.int .i64 (h.op), .string (sb (h.field)), .string (sb (h.text)), .int .i64 (h.edits), .int .i64 (h.exact), .int .u64 (h.lo), .int .u64 (h.hi)]) (ys := [.int .i64 (h.op), .string (sb (h.field)), .string (sb (h.text)), .int .i64 0, .int .i64 0, .int .u64 0, .int .u64 0]) (r := ((h.op == h.op) && (((sb (h.field)).toList == (sb (h.field)).toList) && (((sb (h.text)).toList == (sb (h.text)).toList) && ((h.edits == 0) && ((h.exact == 0) && ((h.lo == 0) && ((h.hi == 0) && true)))))))) (by kernel_rfl) (noth_t h)) hS176 ?_
                    refine GoH.takeV 11 (.bool (nothP h true false false)) (.bool (nothP h true false false)) (some 92) (fun W_ => by kernel_rfl) rfl hS176 ?_
                    refine GoH.takeV 12 (.bool (nothP h true false false)) (.bool (nothP h true false false)) (some 2) (fun W_ => by kernel_rfl) rfl hS176 ?_
                    refine GoH.done [2] [(2, .bool (nothP h true false false))] (by kernel_rfl) (by kernel_rfl) ?_
                    have hM177 : Mem [] w0 w173 [] := hM175.sub (cn (cn (List.Sublist.refl _)))
                    refine GoS.ret (fn := Try.f19) (v := (.bool (nothP h true false false))) Try.func19 (by kernel_rfl) ?_
                    rw [hR]
                    have hall : rightL q.l = true := by rw [← tk_all (l := q.l) (i := i) (by omega)]; exact hRt
                    have hro := right_of hall
                    rw [← he] at hro
                    exact ⟨ret_bool (by rw [hro, node_word (by omega) (by have z := h141; simpa using z) (of_decide_eq_true (by have z := h147; simpa [wordsP] using z)) (by omega), if_neg (by omega)]), hM177.sub (List.nil_sublist _)⟩
                  ·
                    have h168p : ¬ ((((List.length L) : Nat) : Int) = 0) := p_ne h168
                    refine GoH.takeV 5 (.bool ((((List.length L) : Nat) : Int) == 0)) (.bool false) (some 86) (fun W_ => by kernel_rfl) (congrArg Value.bool h168) hS167 ?_
                    refine GoH.skipF 6 (some 87) (by kernel_rfl) hS167 ?_
                    refine GoH.skipF 7 (some 88) (by kernel_rfl) hS167 ?_
                    refine GoH.skipF 8 (some 89) (by kernel_rfl) hS167 ?_
                    refine GoH.skipF 9 (some 90) (by kernel_rfl) hS167 ?_
                    refine GoH.skipF 10 (some 91) (by kernel_rfl) hS167 ?_
                    refine GoH.takeV 11 (.bool false) (.bool false) (some 92) (fun W_ => by kernel_rfl) rfl hS167 ?_
                    refine GoH.takeV 12 (.bool false) (.bool false) (some 2) (fun W_ => by kernel_rfl) rfl hS167 ?_
                    refine GoH.done [2] [(2, .bool false)] (by kernel_rfl) (by kernel_rfl) ?_
                    have hM178 : Mem [] w0 w164 [] := hM166.sub (cn (cn (List.Sublist.refl _)))
                    refine GoS.ret (fn := Try.f19) (v := (.bool false)) Try.func19 (by kernel_rfl) ?_
                    rw [hR]
                    have hall : rightL q.l = true := by rw [← tk_all (l := q.l) (i := i) (by omega)]; exact hRt
                    have hro := right_of hall
                    rw [← he] at hro
                    exact ⟨ret_bool (by rw [hro, node_many (by omega) (by omega)]), hM178.sub (List.nil_sublist _)⟩
          ·
            rw [h18] at h100; cases h100
        ·
          have h18p : ¬ (h.op = 2) := p_ne h18
          refine GoS.run [1, 5, 6, 24, 25] [.n, .n, .n, .n, .n] _ [.code (csub (cd Try.f19) [1,1,1,1,0,1,0,0,1,1,1,1,1]), .code (csub (cd Try.f19) [1,1,1,1,0,1,0,1]), .inBlock 2, .code (csub (cd Try.f19) [1,1,1,1,1])] [(1, pq b), (5, pq b2), (6, .int .i64 0), (24, .int .i64 (h.op)), (25, .bool (h.op == 3))] w7 (by kernel_rfl) .nil ?_
          refine GoS.cond (h.op == 3) [.code (csub (cd Try.f19) [1,1,1,1,0,1,0,0,1,1,1,1,1,0]), .code (csub (cd Try.f19) [1,1,1,1,0,1,0,1]), .inBlock 2, .code (csub (cd Try.f19) [1,1,1,1,1])] [.code (csub (cd Try.f19) [1,1,1,1,0,1,0,0,1,1,1,1,1,1]), .code (csub (cd Try.f19) [1,1,1,1,0,1,0,1]), .inBlock 2, .code (csub (cd Try.f19) [1,1,1,1,1])] (by kernel_rfl) (fun h19 => ?_) (fun h19 => ?_)
          ·
            have h19p : h.op = 3 := eq_of_beq h19
            refine GoS.run [1, 5, 6, 24, 25] [.n] _ [.code (csub (cd Try.f19) [1,1,1,1,0,1,0,1]), .inBlock 2, .code (csub (cd Try.f19) [1,1,1,1,1])] [(1, pq b), (5, pq b2), (6, .int .i64 0), (24, .int .i64 (h.op)), (25, .bool (h.op == 3))] w7 (by kernel_rfl) .nil ?_
            refine GoS.cond (h.op == 3) [.code (csub (cd Try.f19) [1,1,1,1,0,1,0,1,0]), .inBlock 2, .code (csub (cd Try.f19) [1,1,1,1,1])] [.code (csub (cd Try.f19) [1,1,1,1,0,1,0,1,1]), .inBlock 2, .code (csub (cd Try.f19) [1,1,1,1,1])] (by kernel_rfl) (fun h179 => ?_) (fun h179 => ?_)
            ·
              have h179p : h.op = 3 := eq_of_beq h179
              refine GoS.run [1, 5, 6] [.n] _ [.code (csub (cd Try.f19) [1,1,1,1,0,1,0,1,0,0]), .code (csub (cd Try.f19) [1,1,1,1,0,1,0,1,0,1]), .inBlock 2, .code (csub (cd Try.f19) [1,1,1,1,1])] [(1, pq b), (5, pq b2), (6, .int .i64 0)] w7 (by kernel_rfl) .nil ?_
              obtain ⟨w180, hw181⟩ : ∃ w_, (w7).drewN 1 = w_ := ⟨_, rfl⟩
              refine GoS.held (fun W_ => Mem [] w0 W_ [⟨25, 8, (obj b), 1, (qR h v)⟩]) [] 16 (by kernel_rfl) (by kernel_rfl) 8 (by kernel_rfl) ?_
              rw [hw181]
              have hM182 : Mem [] w0 w180 [⟨25, 8, (obj b2), 1, [.int .i64 (h.op), .string (sb ([])), .string (sb ([])), .int .i64 0, .int .i64 0, .int .u64 0, .int .u64 0, v]⟩, ⟨25, 8, (obj b), 1, (qR h v)⟩] := hw181 ▸ hM10.ext (Kept.drewN _ _ 1)
              have hS183 : Mem [] w0 w180 [⟨25, 8, (obj b), 1, (qR h v)⟩] := hM182.sub (cn (cc (List.Sublist.refl _)))
              refine GoH.takeV 0 (.pointer (some (⟨b, 1, none⟩))) (.pointer (some (⟨b, 1, none⟩))) (some 31) (fun W_ => by kernel_rfl) rfl hS183 ?_
              refine GoH.takeF 1 (.string (sb (h.field))) (fun W_ => (Instr.loadAt 9 (.pointer (some (⟨b, 1, none⟩)))).run Try.prog W_ = .ok (.string (sb (h.field))) W_) (some 32) (fun W_ => by kernel_rfl) (fun W_ hW_ => c_load pE9 (hW_.rd 0 rfl) (cel_obj b 1) rfl) hS183 ?_
              refine GoH.takeV 2 (.pointer (some (⟨b, 2, none⟩))) (.pointer (some (⟨b, 2, none⟩))) (some 33) (fun W_ => by kernel_rfl) rfl hS183 ?_
              refine GoH.takeF 3 (.string (sb (h.text))) (fun W_ => (Instr.loadAt 9 (.pointer (some (⟨b, 2, none⟩)))).run Try.prog W_ = .ok (.string (sb (h.text))) W_) (some 34) (fun W_ => by kernel_rfl) (fun W_ hW_ => c_load pE9 (hW_.rd 0 rfl) (cel_obj b 2) rfl) hS183 ?_
              refine GoH.takeV 4 (.pointer (some (⟨b2, 1, none⟩))) (.pointer (some (⟨b2, 1, none⟩))) (some 35) (fun W_ => by kernel_rfl) rfl hS183 ?_
              obtain ⟨w184, hr185, hM186⟩ := c_store (u := .string (sb (h.field))) (by kernel_rfl) hM182 0 rfl (cel_obj b2 1) (by decide) rfl rfl
              have hM187 : Mem [] w0 w184 [⟨25, 8, (obj b2), 1, [.int .i64 (h.op), .string (sb (h.field)), .string (sb ([])), .int .i64 0, .int .i64 0, .int .u64 0, .int .u64 0, v]⟩, ⟨25, 8, (obj b), 1, (qR h v)⟩] := hM186
              have hS188 : Mem [] w0 w184 [⟨25, 8, (obj b), 1, (qR h v)⟩] := hM187.sub (cn (cc (List.Sublist.refl _)))
              refine GoH.stepF 5 (undef) (w184) ((Instr.storeAt 9 (.pointer (some (⟨b2, 1, none⟩))) (.string (sb (h.field)))).run Try.prog w180 = .ok () w184 ∧ undef = undef) none (by kernel_rfl) (⟨hr185, rfl⟩) (.inr hS188) ?_
              refine GoH.takeV 6 (.pointer (some (⟨b2, 2, none⟩))) (.pointer (some (⟨b2, 2, none⟩))) (some 36) (fun W_ => by kernel_rfl) rfl hS188 ?_
              obtain ⟨w189, hr190, hM191⟩ := c_store (u := .string (sb (h.text))) (by kernel_rfl) hM187 0 rfl (cel_obj b2 2) (by decide) rfl rfl
              have hM192 : Mem [] w0 w189 [⟨25, 8, (obj b2), 1, [.int .i64 (h.op), .string (sb (h.field)), .string (sb (h.text)), .int .i64 0, .int .i64 0, .int .u64 0, .int .u64 0, v]⟩, ⟨25, 8, (obj b), 1, (qR h v)⟩] := hM191
              have hS193 : Mem [] w0 w189 [⟨25, 8, (obj b), 1, (qR h v)⟩] := hM192.sub (cn (cc (List.Sublist.refl _)))
              refine GoH.stepF 7 (undef) (w189) ((Instr.storeAt 9 (.pointer (some (⟨b2, 2, none⟩))) (.string (sb (h.text)))).run Try.prog w184 = .ok () w189 ∧ undef = undef) none (by kernel_rfl) (⟨hr190, rfl⟩) (.inr hS193) ?_
              refine GoH.done [1, 5, 6] [(1, pq b), (5, pq b2), (6, .int .i64 0)] (by kernel_rfl) (by kernel_rfl) ?_
              have o194 : (Instr.loadAt 3 (pq b)).run Try.prog w189 = .ok (.int .i64 (h.op)) w189 := c_load pE3 (hM192.rd 1 rfl) (cel_obj b 0) rfl
              refine GoS.run [1, 5, 6, 39] [.n, .n, .n, .n, .h (.int .i64 (h.op)), .n, .n] _ [.code (csub (cd Try.f19) [1,1,1,1,0,1,0,1,0,1,0,1]), .code (csub (cd Try.f19) [1,1,1,1,0,1,0,1,0,1,1]), .inBlock 2, .code (csub (cd Try.f19) [1,1,1,1,1])] [(1, pq b), (5, pq b2), (6, .int .i64 0), (39, .bool (h.op == 4))] w189 (by kernel_rfl) (.cons o194 .nil) ?_
              refine GoS.cond (h.op == 4) [.code (csub (cd Try.f19) [1,1,1,1,0,1,0,1,0,1,0,1,0]), .code (csub (cd Try.f19) [1,1,1,1,0,1,0,1,0,1,1]), .inBlock 2, .code (csub (cd Try.f19) [1,1,1,1,1])] [.code (csub (cd Try.f19) [1,1,1,1,0,1,0,1,0,1,0,1,1]), .code (csub (cd Try.f19) [1,1,1,1,0,1,0,1,0,1,1]), .inBlock 2, .code (csub (cd Try.f19) [1,1,1,1,1])] (by kernel_rfl) (fun h195 => ?_) (fun h195 => ?_)
              ·
                have h195p : h.op = 4 := eq_of_beq h195
                obtain ⟨w196, hw197⟩ : ∃ w_, (w189).drewN 1 = w_ := ⟨_, rfl⟩
                refine GoS.held (fun W_ => Mem [] w0 W_ [⟨25, 8, (obj b), 1, (qR h v)⟩]) [] 18 (by kernel_rfl) (by kernel_rfl) 8 (by kernel_rfl) ?_
                rw [hw197]
                have hM198 : Mem [] w0 w196 [⟨25, 8, (obj b2), 1, [.int .i64 (h.op), .string (sb (h.field)), .string (sb (h.text)), .int .i64 0, .int .i64 0, .int .u64 0, .int .u64 0, v]⟩, ⟨25, 8, (obj b), 1, (qR h v)⟩] := hw197 ▸ hM192.ext (Kept.drewN _ _ 1)
                have hS199 : Mem [] w0 w196 [⟨25, 8, (obj b), 1, (qR h v)⟩] := hM198.sub (cn (cc (List.Sublist.refl _)))
                refine GoH.takeV 0 (.pointer (some (⟨b, 3, none⟩))) (.pointer (some (⟨b, 3, none⟩))) (some 40) (fun W_ => by kernel_rfl) rfl hS199 ?_
                refine GoH.takeF 1 (.int .i64 (h.edits)) (fun W_ => (Instr.loadAt 3 (.pointer (some (⟨b, 3, none⟩)))).run Try.prog W_ = .ok (.int .i64 (h.edits)) W_) (some 41) (fun W_ => by kernel_rfl) (fun W_ hW_ => c_load pE3 (hW_.rd 0 rfl) (cel_obj b 3) rfl) hS199 ?_
                refine GoH.takeV 2 (.pointer (some (⟨b, 4, none⟩))) (.pointer (some (⟨b, 4, none⟩))) (some 42) (fun W_ => by kernel_rfl) rfl hS199 ?_
                refine GoH.takeF 3 (.int .i64 (h.exact)) (fun W_ => (Instr.loadAt 3 (.pointer (some (⟨b, 4, none⟩)))).run Try.prog W_ = .ok (.int .i64 (h.exact)) W_) (some 43) (fun W_ => by kernel_rfl) (fun W_ hW_ => c_load pE3 (hW_.rd 0 rfl) (cel_obj b 4) rfl) hS199 ?_
                refine GoH.takeV 4 (.pointer (some (⟨b2, 3, none⟩))) (.pointer (some (⟨b2, 3, none⟩))) (some 44) (fun W_ => by kernel_rfl) rfl hS199 ?_
                obtain ⟨w200, hr201, hM202⟩ := c_store (u := .int .i64 (h.edits)) (by kernel_rfl) hM198 0 rfl (cel_obj b2 3) (by decide) rfl rfl
                have hM203 : Mem [] w0 w200 [⟨25, 8, (obj b2), 1, [.int .i64 (h.op), .string (sb (h.field)), .string (sb (h.text)), .int .i64 (h.edits), .int .i64 0, .int .u64 0, .int .u64 0, v]⟩, ⟨25, 8, (obj b), 1, (qR h v)⟩] := hM202
                have hS204 : Mem [] w0 w200 [⟨25, 8, (obj b), 1, (qR h v)⟩] := hM203.sub (cn (cc (List.Sublist.refl _)))
                refine GoH.stepF 5 (undef) (w200) ((Instr.storeAt 3 (.pointer (some (⟨b2, 3, none⟩))) (.int .i64 (h.edits))).run Try.prog w196 = .ok () w200 ∧ undef = undef) none (by kernel_rfl) (⟨hr201, rfl⟩) (.inr hS204) ?_
                refine GoH.takeV 6 (.pointer (some (⟨b2, 4, none⟩))) (.pointer (some (⟨b2, 4, none⟩))) (some 45) (fun W_ => by kernel_rfl) rfl hS204 ?_
                obtain ⟨w205, hr206, hM207⟩ := c_store (u := .int .i64 (h.exact)) (by kernel_rfl) hM203 0 rfl (cel_obj b2 4) (by decide) rfl rfl
                have hM208 : Mem [] w0 w205 [⟨25, 8, (obj b2), 1, [.int .i64 (h.op), .string (sb (h.field)), .string (sb (h.text)), .int .i64 (h.edits), .int .i64 (h.exact), .int .u64 0, .int .u64 0, v]⟩, ⟨25, 8, (obj b), 1, (qR h v)⟩] := hM207
                have hS209 : Mem [] w0 w205 [⟨25, 8, (obj b), 1, (qR h v)⟩] := hM208.sub (cn (cc (List.Sublist.refl _)))
                refine GoH.stepF 7 (undef) (w205) ((Instr.storeAt 3 (.pointer (some (⟨b2, 4, none⟩))) (.int .i64 (h.exact))).run Try.prog w200 = .ok () w205 ∧ undef = undef) none (by kernel_rfl) (⟨hr206, rfl⟩) (.inr hS209) ?_
                refine GoH.done [1, 5, 6] [(1, pq b), (5, pq b2), (6, .int .i64 0)] (by kernel_rfl) (by kernel_rfl) ?_
                have o210 : (Instr.loadAt 9 (.pointer (some (⟨b, 1, none⟩)))).run Try.prog w205 = .ok (.string (sb (h.field))) w205 := c_load pE9 (hM208.rd 1 rfl) (cel_obj b 1) rfl
                refine GoS.run [1, 5, 6, 47] [.n, .n, .n, .h (.string (sb (h.field)))] _ [.inRegion (cops (csub (cd Try.f19) [1,1,1,1,0,1,0,1,0,1,1,0])) [2,3,4,5,6,7,8], .code (csub (cd Try.f19) [1,1,1,1,0,1,0,1,0,1,1,1]), .inBlock 2, .code (csub (cd Try.f19) [1,1,1,1,1])] [(1, pq b), (5, pq b2), (6, .int .i64 0), (47, .string (sb (h.field)))] w205 (by kernel_rfl) (.cons o210 .nil) ?_
                refine GoS.call [1, 5, 6] 22 #[.string (sb (h.field))] (some 48) [.inRegion (cops (csub (cd Try.f19) [1,1,1,1,0,1,0,1,0,1,1,0])) [3,4,5,6,7,8], .code (csub (cd Try.f19) [1,1,1,1,0,1,0,1,0,1,1,1]), .inBlock 2, .code (csub (cd Try.f19) [1,1,1,1,1])] [(1, pq b), (5, pq b2), (6, .int .i64 0)] (by kernel_rfl) (name_c (h.field) (by rw [he]; omega) w205) ?_
                rintro _ _ ⟨rfl, rfl⟩
                refine ⟨_, rfl, ?_⟩
                refine GoS.run [1, 5, 6, 50] [.n, .n] _ [.inRegion (cops (csub (cd Try.f19) [1,1,1,1,0,1,0,1,0,1,1,0])) [5,6,7,8], .code (csub (cd Try.f19) [1,1,1,1,0,1,0,1,0,1,1,1]), .inBlock 2, .code (csub (cd Try.f19) [1,1,1,1,1])] [(1, pq b), (5, pq b2), (6, .int .i64 0), (50, .bool (!(nameP (h.field))))] w205 (by kernel_rfl) .nil ?_
                refine GoS.fork 50 (!(nameP (h.field))) (by kernel_rfl) (fun h211 => ?_) (fun h211 => ?_)
                ·
                  refine GoS.run [1, 5, 6, 54] [.n, .n, .n, .n] _ [.inRegion (cops (csub (cd Try.f19) [1,1,1,1,0,1,0,1,0,1,1,0])) [], .code (csub (cd Try.f19) [1,1,1,1,0,1,0,1,0,1,1,1]), .inBlock 2, .code (csub (cd Try.f19) [1,1,1,1,1])] [(1, pq b), (5, pq b2), (6, .int .i64 0), (54, .bool true)] w205 (by kernel_rfl) .nil ?_
                  have hM216 : Mem [] w0 w205 [] := hM208.sub (cn (cn (List.Sublist.refl _)))
                  refine GoS.run [2] [.n, .n, .n, .n, .n, .n] _ [.code (csub (cd Try.f19) [1,1,1,1,0,1,0,1,0,1,1,1,0,1]), .inBlock 2, .code (csub (cd Try.f19) [1,1,1,1,1])] [(2, .bool false)] w205 (by kernel_rfl) .nil ?_
                  refine GoS.ret (fn := Try.f19) (v := (.bool false)) Try.func19 (by kernel_rfl) ?_
                  rw [hR]
                  have hall : rightL q.l = true := by rw [← tk_all (l := q.l) (i := i) (by omega)]; exact hRt
                  have hro := right_of hall
                  rw [← he] at hro
                  exact ⟨ret_bool (by rw [hro, node_name (by omega) (by have z := h211; simpa using z)]), hM216.sub (List.nil_sublist _)⟩
                ·
                  have o212 : (Instr.loadAt 25 (pq b)).run Try.prog w205 = .ok ((qA h v)) w205 := c_loads (ys := (qR h v)) aE25 (hM208.rd 1 rfl) (cel_obj b 0) rfl (by intro j u hj; match j, hj with | 0, hj => exact hj | 1, hj => exact hj | 2, hj => exact hj | 3, hj => exact hj | 4, hj => exact hj | 5, hj => exact hj | 6, hj => exact hj | 7, hj => exact hj | n + 8, hj => cases hj)
                  refine GoS.run [1, 5, 6, 50, 51] [.h ((qA h v))] _ [.inRegion (cops (csub (cd Try.f19) [1,1,1,1,0,1,0,1,0,1,1,0])) [6,7,8], .code (csub (cd Try.f19) [1,1,1,1,0,1,0,1,0,1,1,1]), .inBlock 2, .code (csub (cd Try.f19) [1,1,1,1,1])] [(1, pq b), (5, pq b2), (6, .int .i64 0), (50, .bool false), (51, (qA h v))] w205 (by kernel_rfl) (.cons o212 .nil) ?_
                  refine GoS.call [1, 5, 6, 50] 23 #[(qA h v)] (some 52) [.inRegion (cops (csub (cd Try.f19) [1,1,1,1,0,1,0,1,0,1,1,0])) [7,8], .code (csub (cd Try.f19) [1,1,1,1,0,1,0,1,0,1,1,1]), .inBlock 2, .code (csub (cd Try.f19) [1,1,1,1,1])] [(1, pq b), (5, pq b2), (6, .int .i64 0), (50, .bool false)] (by kernel_rfl) (words_c q h he v (hq.kept hM208.kept) (by omega)) ?_
                  rintro _ w213 ⟨rfl, m214⟩
                  refine ⟨_, rfl, ?_⟩
                  have hM215 := Mem.join hM208 m214
                  refine GoS.run [1, 5, 6, 54] [.n, .n] _ [.inRegion (cops (csub (cd Try.f19) [1,1,1,1,0,1,0,1,0,1,1,0])) [], .code (csub (cd Try.f19) [1,1,1,1,0,1,0,1,0,1,1,1]), .inBlock 2, .code (csub (cd Try.f19) [1,1,1,1,1])] [(1, pq b), (5, pq b2), (6, .int .i64 0), (54, .bool (!(wordsP h)))] w213 (by kernel_rfl) .nil ?_
                  refine GoS.run [1, 5, 6, 54] [.n] _ [.code (csub (cd Try.f19) [1,1,1,1,0,1,0,1,0,1,1,1]), .inBlock 2, .code (csub (cd Try.f19) [1,1,1,1,1])] [(1, pq b), (5, pq b2), (6, .int .i64 0), (54, .bool (!(wordsP h)))] w213 (by kernel_rfl) .nil ?_
                  refine GoS.cond (!(wordsP h)) [.code (csub (cd Try.f19) [1,1,1,1,0,1,0,1,0,1,1,1,0]), .inBlock 2, .code (csub (cd Try.f19) [1,1,1,1,1])] [.code (csub (cd Try.f19) [1,1,1,1,0,1,0,1,0,1,1,1,1]), .inBlock 2, .code (csub (cd Try.f19) [1,1,1,1,1])] (by kernel_rfl) (fun h217 => ?_) (fun h217 => ?_)
                  ·
                    have hM218 : Mem [] w0 w213 [] := hM215.sub (cn (cn (List.Sublist.refl _)))
                    refine GoS.run [2] [.n, .n, .n, .n] _ [.code (csub (cd Try.f19) [1,1,1,1,0,1,0,1,0,1,1,1,0,1]), .inBlock 2, .code (csub (cd Try.f19) [1,1,1,1,1])] [(2, .bool false)] w213 (by kernel_rfl) .nil ?_
                    refine GoS.ret (fn := Try.f19) (v := (.bool false)) Try.func19 (by kernel_rfl) ?_
                    rw [hR]
                    have hall : rightL q.l = true := by rw [← tk_all (l := q.l) (i := i) (by omega)]; exact hRt
                    have hro := right_of hall
                    rw [← he] at hro
                    exact ⟨ret_bool (by rw [hro, node_noword (by omega) (of_decide_eq_false (by have z := h217; simpa [wordsP] using z))]), hM218.sub (List.nil_sublist _)⟩
                  ·
                    refine GoS.run [1, 5, 6] [.n] _ [.inBlock 2, .code (csub (cd Try.f19) [1,1,1,1,1])] [(1, pq b), (5, pq b2), (6, .int .i64 0)] w213 (by kernel_rfl) .nil ?_
                    refine GoS.run [1, 5, 6] [.n, .n] _ [.code (csub (cd Try.f19) [1,1,1,1,1,0]), .code (csub (cd Try.f19) [1,1,1,1,1,1])] [(1, pq b), (5, pq b2), (6, .int .i64 0)] w213 (by kernel_rfl) .nil ?_
                    obtain ⟨w228, hw229⟩ : ∃ w_, (w213).drewN 1 = w_ := ⟨_, rfl⟩
                    refine GoS.held (fun W_ => Mem [] w0 W_ [⟨25, 8, (obj b2), 1, [.int .i64 (h.op), .string (sb (h.field)), .string (sb (h.text)), .int .i64 (h.edits), .int .i64 (h.exact), .int .u64 0, .int .u64 0, v]⟩, ⟨25, 8, (obj b), 1, (qR h v)⟩]) [] 31 (by kernel_rfl) (by kernel_rfl) 13 (by kernel_rfl) ?_
                    rw [hw229]
                    have hM230 : Mem [] w0 w228 [⟨25, 8, (obj b2), 1, [.int .i64 (h.op), .string (sb (h.field)), .string (sb (h.text)), .int .i64 (h.edits), .int .i64 (h.exact), .int .u64 0, .int .u64 0, v]⟩, ⟨25, 8, (obj b), 1, (qR h v)⟩] := hw229 ▸ hM215.ext (Kept.drewN _ _ 1)
                    have hS231 : Mem [] w0 w228 [⟨25, 8, (obj b2), 1, [.int .i64 (h.op), .string (sb (h.field)), .string (sb (h.text)), .int .i64 (h.edits), .int .i64 (h.exact), .int .u64 0, .int .u64 0, v]⟩, ⟨25, 8, (obj b), 1, (qR h v)⟩] := hM230.sub (cc (cc (List.Sublist.refl _)))
                    refine GoH.takeV 0 (.pointer (some (⟨b, 7, none⟩))) (.pointer (some (⟨b, 7, none⟩))) (some 81) (fun W_ => by kernel_rfl) rfl hS231 ?_
                    refine GoH.takeF 1 (v) (fun W_ => (Instr.loadAt 23 (.pointer (some (⟨b, 7, none⟩)))).run Try.prog W_ = .ok (v) W_) (some 82) (fun W_ => by kernel_rfl) (fun W_ hW_ => c_load pE23 (hW_.rd 1 rfl) (cel_obj b 7) rfl) hS231 ?_
                    refine GoH.takeF 2 (.int .i64 (((List.length L) : Nat) : Int)) (fun W_ => (Builtin.len_ #[23] 3 #[v]).run Try.prog W_ = .ok (.int .i64 (((List.length L) : Nat) : Int)) W_) (some 83) (fun W_ => by kernel_rfl) (fun W_ hW_ => f_slen sT23 (hr.kept0 hW_.kept) 3 _) hS231 ?_
                    refine GoH.takeV 3 (.int .i64 0) (.int .i64 0) (some 84) (fun W_ => by kernel_rfl) rfl hS231 ?_
                    refine GoH.takeV 4 (.bool ((((List.length L) : Nat) : Int) == 0)) (.bool ((((List.length L) : Nat) : Int) == 0)) (some 85) (fun W_ => by kernel_rfl) rfl hS231 ?_
                    rcases Bool.eq_false_or_eq_true ((((List.length L) : Nat) : Int) == 0) with h232 | h232
                    ·
                      have h232p : (((List.length L) : Nat) : Int) = 0 := eq_of_beq h232
                      refine GoH.takeV 5 (.bool ((((List.length L) : Nat) : Int) == 0)) (.bool true) (some 86) (fun W_ => by kernel_rfl) (congrArg Value.bool h232) hS231 ?_
                      refine GoH.takeF 6 ((qA h v)) (fun W_ => (Instr.loadAt 25 (pq b)).run Try.prog W_ = .ok ((qA h v)) W_) (some 87) (fun W_ => by kernel_rfl) (fun W_ hW_ => c_loads (ys := (qR h v)) aE25 (hW_.rd 1 rfl) (cel_obj b 0) rfl (by intro j u hj; match j, hj with | 0, hj => exact hj | 1, hj => exact hj | 2, hj => exact hj | 3, hj => exact hj | 4, hj => exact hj | 5, hj => exact hj | 6, hj => exact hj | 7, hj => exact hj | n + 8, hj => cases hj)) hS231 ?_
                      refine GoH.takeF 8 (.agg #[.int .i64 (h.op), .string (sb (h.field)), .string (sb (h.text)), .int .i64 (h.edits), .int .i64 (h.exact), .int .u64 0, .int .u64 0, v]) (fun W_ => (Instr.loadAt 25 (pq b2)).run Try.prog W_ = .ok (.agg #[.int .i64 (h.op), .string (sb (h.field)), .string (sb (h.text)), .int .i64 (h.edits), .int .i64 (h.exact), .int .u64 0, .int .u64 0, v]) W_) (some 89) (fun W_ => by kernel_rfl) (fun W_ hW_ => c_loads (ys := [.int .i64 (h.op), .string (sb (h.field)), .string (sb (h.text)), .int .i64 (h.edits), .int .i64 (h.exact), .int .u64 0, .int .u64 0, v]) aE25 (hW_.rd 0 rfl) (cel_obj b2 0) rfl (by intro j u hj; match j, hj with | 0, hj => exact hj | 1, hj => exact hj | 2, hj => exact hj | 3, hj => exact hj | 4, hj => exact hj | 5, hj => exact hj | 6, hj => exact hj | 7, hj => exact hj | n + 8, hj => cases hj)) hS231 ?_
                      refine GoH.callF 7 21 #[(qA h v)] (some 88) (by kernel_rfl) (flat_c (w := w228) h v) ?_
                      rintro _ w233 ⟨rfl, m234⟩
                      have hM235 := Mem.join hM230 m234
                      have hS236 : Mem [] w0 w233 [⟨25, 8, (obj b2), 1, [.int .i64 (h.op), .string (sb (h.field)), .string (sb (h.text)), .int .i64 (h.edits), .int .i64 (h.exact), .int .u64 0, .int .u64 0, v]⟩, ⟨25, 8, (obj b), 1, (qR h v)⟩] := hM235.sub (cc (cc (List.Sublist.refl _)))
                      refine ⟨(qH h), rfl, .inr hS236, ?_⟩
                      refine GoH.callF 9 21 #[.agg #[.int .i64 (h.op), .string (sb (h.field)), .string (sb (h.text)), .int .i64 (h.edits), .int .i64 (h.exact), .int .u64 0, .int .u64 0, v]] (some 90) (by kernel_rfl) (flat_c (w := w233) (Hd.mk (h.op) (h.field) (h.text) (h.edits) (h.exact) 0 0) v) ?_
                      rintro _ w237 ⟨rfl, m238⟩
                      have hM239 := Mem.join hM235 m238
                      have hS240 : Mem [] w0 w237 [⟨25, 8, (obj b2), 1, [.int .i64 (h.op), .string (sb (h.field)), .string (sb (h.text)), .int .i64 (h.edits), .int .i64 (h.exact), .int .u64 0, .int .u64 0, v]⟩, ⟨25, 8, (obj b), 1, (qR h v)⟩] := hM239.sub (cc (cc (List.Sublist.refl _)))
                      refine ⟨.agg #[.int .i64 (h.op), .string (sb (h.field)), .string (sb (h.text)), .int .i64 (h.edits), .int .i64 (h.exact), .int .u64 0, .int .u64 0], rfl, .inr hS240, ?_⟩
                      refine GoH.takeF 10 (.bool (nothP h true true false)) (fun W_ => Try.prog.eqGuardType Try.prog.depth 38 = false ∧ (binOp .eql 38 ((qH h)) (.agg #[.int .i64 (h.op), .string (sb (h.field)), .string (sb (h.text)), .int .i64 (h.edits), .int .i64 (h.exact), .int .u64 0, .int .u64 0])).run Try.prog W_ = .ok (.bool (nothP h true true false)) W_) (some 91) (fun W_ => by kernel_rfl) (fun W_ hW_ => f_ageq eT38 (xs := [.int .i64 (h.op), .string (sb (h.field)), .string (sb (h.text)), .int .i64 (h.edits), .int .i64 (h.exact), .int .u64 (h.lo), .int .u64 (h.hi)]) (ys := [.int .i64 (h.op), .string (sb (h.field)), .string (sb (h.text)), .int .i64 (h.edits), .int .i64 (h.exact), .int .u64 0, .int .u64 0]) (r := ((h.op == h.op) && (((sb (h.field)).toList == (sb (h.field)).toList) && (((sb (h.text)).toList == (sb (h.text)).toList) && ((h.edits == h.edits) && ((h.exact == h.exact) && ((h.lo == 0) && ((h.hi == 0) && true)))))))) (by kernel_rfl) (noth_f h)) hS240 ?_
                      refine GoH.takeV 11 (.bool (nothP h true true false)) (.bool (nothP h true true false)) (some 92) (fun W_ => by kernel_rfl) rfl hS240 ?_
                      refine GoH.takeV 12 (.bool (nothP h true true false)) (.bool (nothP h true true false)) (some 2) (fun W_ => by kernel_rfl) rfl hS240 ?_
                      refine GoH.done [2] [(2, .bool (nothP h true true false))] (by kernel_rfl) (by kernel_rfl) ?_
                      have hM241 : Mem [] w0 w237 [] := hM239.sub (cn (cn (List.Sublist.refl _)))
                      refine GoS.ret (fn := Try.f19) (v := (.bool (nothP h true true false))) Try.func19 (by kernel_rfl) ?_
                      rw [hR]
                      have hall : rightL q.l = true := by rw [← tk_all (l := q.l) (i := i) (by omega)]; exact hRt
                      have hro := right_of hall
                      rw [← he] at hro
                      exact ⟨ret_bool (by rw [hro, node_word (by omega) (by have z := h211; simpa using z) (of_decide_eq_true (by have z := h217; simpa [wordsP] using z)) (by omega), if_pos (by omega)]), hM241.sub (List.nil_sublist _)⟩
                    ·
                      have h232p : ¬ ((((List.length L) : Nat) : Int) = 0) := p_ne h232
                      refine GoH.takeV 5 (.bool ((((List.length L) : Nat) : Int) == 0)) (.bool false) (some 86) (fun W_ => by kernel_rfl) (congrArg Value.bool h232) hS231 ?_
                      refine GoH.skipF 6 (some 87) (by kernel_rfl) hS231 ?_
                      refine GoH.skipF 7 (some 88) (by kernel_rfl) hS231 ?_
                      refine GoH.skipF 8 (some 89) (by kernel_rfl) hS231 ?_
                      refine GoH.skipF 9 (some 90) (by kernel_rfl) hS231 ?_
                      refine GoH.skipF 10 (some 91) (by kernel_rfl) hS231 ?_
                      refine GoH.takeV 11 (.bool false) (.bool false) (some 92) (fun W_ => by kernel_rfl) rfl hS231 ?_
                      refine GoH.takeV 12 (.bool false) (.bool false) (some 2) (fun W_ => by kernel_rfl) rfl hS231 ?_
                      refine GoH.done [2] [(2, .bool false)] (by kernel_rfl) (by kernel_rfl) ?_
                      have hM242 : Mem [] w0 w228 [] := hM230.sub (cn (cn (List.Sublist.refl _)))
                      refine GoS.ret (fn := Try.f19) (v := (.bool false)) Try.func19 (by kernel_rfl) ?_
                      rw [hR]
                      have hall : rightL q.l = true := by rw [← tk_all (l := q.l) (i := i) (by omega)]; exact hRt
                      have hro := right_of hall
                      rw [← he] at hro
                      exact ⟨ret_bool (by rw [hro, node_many (by omega) (by omega)]), hM242.sub (List.nil_sublist _)⟩
              ·
                have h195p : ¬ (h.op = 4) := p_ne h195
                refine GoS.run [1, 5, 6] [.n] _ [.code (csub (cd Try.f19) [1,1,1,1,0,1,0,1,0,1,1]), .inBlock 2, .code (csub (cd Try.f19) [1,1,1,1,1])] [(1, pq b), (5, pq b2), (6, .int .i64 0)] w189 (by kernel_rfl) .nil ?_
                have o219 : (Instr.loadAt 9 (.pointer (some (⟨b, 1, none⟩)))).run Try.prog w189 = .ok (.string (sb (h.field))) w189 := c_load pE9 (hM192.rd 1 rfl) (cel_obj b 1) rfl
                refine GoS.run [1, 5, 6, 47] [.n, .n, .n, .h (.string (sb (h.field)))] _ [.inRegion (cops (csub (cd Try.f19) [1,1,1,1,0,1,0,1,0,1,1,0])) [2,3,4,5,6,7,8], .code (csub (cd Try.f19) [1,1,1,1,0,1,0,1,0,1,1,1]), .inBlock 2, .code (csub (cd Try.f19) [1,1,1,1,1])] [(1, pq b), (5, pq b2), (6, .int .i64 0), (47, .string (sb (h.field)))] w189 (by kernel_rfl) (.cons o219 .nil) ?_
                refine GoS.call [1, 5, 6] 22 #[.string (sb (h.field))] (some 48) [.inRegion (cops (csub (cd Try.f19) [1,1,1,1,0,1,0,1,0,1,1,0])) [3,4,5,6,7,8], .code (csub (cd Try.f19) [1,1,1,1,0,1,0,1,0,1,1,1]), .inBlock 2, .code (csub (cd Try.f19) [1,1,1,1,1])] [(1, pq b), (5, pq b2), (6, .int .i64 0)] (by kernel_rfl) (name_c (h.field) (by rw [he]; omega) w189) ?_
                rintro _ _ ⟨rfl, rfl⟩
                refine ⟨_, rfl, ?_⟩
                refine GoS.run [1, 5, 6, 50] [.n, .n] _ [.inRegion (cops (csub (cd Try.f19) [1,1,1,1,0,1,0,1,0,1,1,0])) [5,6,7,8], .code (csub (cd Try.f19) [1,1,1,1,0,1,0,1,0,1,1,1]), .inBlock 2, .code (csub (cd Try.f19) [1,1,1,1,1])] [(1, pq b), (5, pq b2), (6, .int .i64 0), (50, .bool (!(nameP (h.field))))] w189 (by kernel_rfl) .nil ?_
                refine GoS.fork 50 (!(nameP (h.field))) (by kernel_rfl) (fun h220 => ?_) (fun h220 => ?_)
                ·
                  refine GoS.run [1, 5, 6, 54] [.n, .n, .n, .n] _ [.inRegion (cops (csub (cd Try.f19) [1,1,1,1,0,1,0,1,0,1,1,0])) [], .code (csub (cd Try.f19) [1,1,1,1,0,1,0,1,0,1,1,1]), .inBlock 2, .code (csub (cd Try.f19) [1,1,1,1,1])] [(1, pq b), (5, pq b2), (6, .int .i64 0), (54, .bool true)] w189 (by kernel_rfl) .nil ?_
                  have hM225 : Mem [] w0 w189 [] := hM192.sub (cn (cn (List.Sublist.refl _)))
                  refine GoS.run [2] [.n, .n, .n, .n, .n, .n] _ [.code (csub (cd Try.f19) [1,1,1,1,0,1,0,1,0,1,1,1,0,1]), .inBlock 2, .code (csub (cd Try.f19) [1,1,1,1,1])] [(2, .bool false)] w189 (by kernel_rfl) .nil ?_
                  refine GoS.ret (fn := Try.f19) (v := (.bool false)) Try.func19 (by kernel_rfl) ?_
                  rw [hR]
                  have hall : rightL q.l = true := by rw [← tk_all (l := q.l) (i := i) (by omega)]; exact hRt
                  have hro := right_of hall
                  rw [← he] at hro
                  exact ⟨ret_bool (by rw [hro, node_name (by omega) (by have z := h220; simpa using z)]), hM225.sub (List.nil_sublist _)⟩
                ·
                  have o221 : (Instr.loadAt 25 (pq b)).run Try.prog w189 = .ok ((qA h v)) w189 := c_loads (ys := (qR h v)) aE25 (hM192.rd 1 rfl) (cel_obj b 0) rfl (by intro j u hj; match j, hj with | 0, hj => exact hj | 1, hj => exact hj | 2, hj => exact hj | 3, hj => exact hj | 4, hj => exact hj | 5, hj => exact hj | 6, hj => exact hj | 7, hj => exact hj | n + 8, hj => cases hj)
                  refine GoS.run [1, 5, 6, 50, 51] [.h ((qA h v))] _ [.inRegion (cops (csub (cd Try.f19) [1,1,1,1,0,1,0,1,0,1,1,0])) [6,7,8], .code (csub (cd Try.f19) [1,1,1,1,0,1,0,1,0,1,1,1]), .inBlock 2, .code (csub (cd Try.f19) [1,1,1,1,1])] [(1, pq b), (5, pq b2), (6, .int .i64 0), (50, .bool false), (51, (qA h v))] w189 (by kernel_rfl) (.cons o221 .nil) ?_
                  refine GoS.call [1, 5, 6, 50] 23 #[(qA h v)] (some 52) [.inRegion (cops (csub (cd Try.f19) [1,1,1,1,0,1,0,1,0,1,1,0])) [7,8], .code (csub (cd Try.f19) [1,1,1,1,0,1,0,1,0,1,1,1]), .inBlock 2, .code (csub (cd Try.f19) [1,1,1,1,1])] [(1, pq b), (5, pq b2), (6, .int .i64 0), (50, .bool false)] (by kernel_rfl) (words_c q h he v (hq.kept hM192.kept) (by omega)) ?_
                  rintro _ w222 ⟨rfl, m223⟩
                  refine ⟨_, rfl, ?_⟩
                  have hM224 := Mem.join hM192 m223
                  refine GoS.run [1, 5, 6, 54] [.n, .n] _ [.inRegion (cops (csub (cd Try.f19) [1,1,1,1,0,1,0,1,0,1,1,0])) [], .code (csub (cd Try.f19) [1,1,1,1,0,1,0,1,0,1,1,1]), .inBlock 2, .code (csub (cd Try.f19) [1,1,1,1,1])] [(1, pq b), (5, pq b2), (6, .int .i64 0), (54, .bool (!(wordsP h)))] w222 (by kernel_rfl) .nil ?_
                  refine GoS.run [1, 5, 6, 54] [.n] _ [.code (csub (cd Try.f19) [1,1,1,1,0,1,0,1,0,1,1,1]), .inBlock 2, .code (csub (cd Try.f19) [1,1,1,1,1])] [(1, pq b), (5, pq b2), (6, .int .i64 0), (54, .bool (!(wordsP h)))] w222 (by kernel_rfl) .nil ?_
                  refine GoS.cond (!(wordsP h)) [.code (csub (cd Try.f19) [1,1,1,1,0,1,0,1,0,1,1,1,0]), .inBlock 2, .code (csub (cd Try.f19) [1,1,1,1,1])] [.code (csub (cd Try.f19) [1,1,1,1,0,1,0,1,0,1,1,1,1]), .inBlock 2, .code (csub (cd Try.f19) [1,1,1,1,1])] (by kernel_rfl) (fun h226 => ?_) (fun h226 => ?_)
                  ·
                    have hM227 : Mem [] w0 w222 [] := hM224.sub (cn (cn (List.Sublist.refl _)))
                    refine GoS.run [2] [.n, .n, .n, .n] _ [.code (csub (cd Try.f19) [1,1,1,1,0,1,0,1,0,1,1,1,0,1]), .inBlock 2, .code (csub (cd Try.f19) [1,1,1,1,1])] [(2, .bool false)] w222 (by kernel_rfl) .nil ?_
                    refine GoS.ret (fn := Try.f19) (v := (.bool false)) Try.func19 (by kernel_rfl) ?_
                    rw [hR]
                    have hall : rightL q.l = true := by rw [← tk_all (l := q.l) (i := i) (by omega)]; exact hRt
                    have hro := right_of hall
                    rw [← he] at hro
                    exact ⟨ret_bool (by rw [hro, node_noword (by omega) (of_decide_eq_false (by have z := h226; simpa [wordsP] using z))]), hM227.sub (List.nil_sublist _)⟩
                  ·
                    refine GoS.run [1, 5, 6] [.n] _ [.inBlock 2, .code (csub (cd Try.f19) [1,1,1,1,1])] [(1, pq b), (5, pq b2), (6, .int .i64 0)] w222 (by kernel_rfl) .nil ?_
                    refine GoS.run [1, 5, 6] [.n, .n] _ [.code (csub (cd Try.f19) [1,1,1,1,1,0]), .code (csub (cd Try.f19) [1,1,1,1,1,1])] [(1, pq b), (5, pq b2), (6, .int .i64 0)] w222 (by kernel_rfl) .nil ?_
                    obtain ⟨w243, hw244⟩ : ∃ w_, (w222).drewN 1 = w_ := ⟨_, rfl⟩
                    refine GoS.held (fun W_ => Mem [] w0 W_ [⟨25, 8, (obj b2), 1, [.int .i64 (h.op), .string (sb (h.field)), .string (sb (h.text)), .int .i64 0, .int .i64 0, .int .u64 0, .int .u64 0, v]⟩, ⟨25, 8, (obj b), 1, (qR h v)⟩]) [] 31 (by kernel_rfl) (by kernel_rfl) 13 (by kernel_rfl) ?_
                    rw [hw244]
                    have hM245 : Mem [] w0 w243 [⟨25, 8, (obj b2), 1, [.int .i64 (h.op), .string (sb (h.field)), .string (sb (h.text)), .int .i64 0, .int .i64 0, .int .u64 0, .int .u64 0, v]⟩, ⟨25, 8, (obj b), 1, (qR h v)⟩] := hw244 ▸ hM224.ext (Kept.drewN _ _ 1)
                    have hS246 : Mem [] w0 w243 [⟨25, 8, (obj b2), 1, [.int .i64 (h.op), .string (sb (h.field)), .string (sb (h.text)), .int .i64 0, .int .i64 0, .int .u64 0, .int .u64 0, v]⟩, ⟨25, 8, (obj b), 1, (qR h v)⟩] := hM245.sub (cc (cc (List.Sublist.refl _)))
                    refine GoH.takeV 0 (.pointer (some (⟨b, 7, none⟩))) (.pointer (some (⟨b, 7, none⟩))) (some 81) (fun W_ => by kernel_rfl) rfl hS246 ?_
                    refine GoH.takeF 1 (v) (fun W_ => (Instr.loadAt 23 (.pointer (some (⟨b, 7, none⟩)))).run Try.prog W_ = .ok (v) W_) (some 82) (fun W_ => by kernel_rfl) (fun W_ hW_ => c_load pE23 (hW_.rd 1 rfl) (cel_obj b 7) rfl) hS246 ?_
                    refine GoH.takeF 2 (.int .i64 (((List.length L) : Nat) : Int)) (fun W_ => (Builtin.len_ #[23] 3 #[v]).run Try.prog W_ = .ok (.int .i64 (((List.length L) : Nat) : Int)) W_) (some 83) (fun W_ => by kernel_rfl) (fun W_ hW_ => f_slen sT23 (hr.kept0 hW_.kept) 3 _) hS246 ?_
                    refine GoH.takeV 3 (.int .i64 0) (.int .i64 0) (some 84) (fun W_ => by kernel_rfl) rfl hS246 ?_
                    refine GoH.takeV 4 (.bool ((((List.length L) : Nat) : Int) == 0)) (.bool ((((List.length L) : Nat) : Int) == 0)) (some 85) (fun W_ => by kernel_rfl) rfl hS246 ?_
                    rcases Bool.eq_false_or_eq_true ((((List.length L) : Nat) : Int) == 0) with h247 | h247
                    ·
                      have h247p : (((List.length L) : Nat) : Int) = 0 := eq_of_beq h247
                      refine GoH.takeV 5 (.bool ((((List.length L) : Nat) : Int) == 0)) (.bool true) (some 86) (fun W_ => by kernel_rfl) (congrArg Value.bool h247) hS246 ?_
                      refine GoH.takeF 6 ((qA h v)) (fun W_ => (Instr.loadAt 25 (pq b)).run Try.prog W_ = .ok ((qA h v)) W_) (some 87) (fun W_ => by kernel_rfl) (fun W_ hW_ => c_loads (ys := (qR h v)) aE25 (hW_.rd 1 rfl) (cel_obj b 0) rfl (by intro j u hj; match j, hj with | 0, hj => exact hj | 1, hj => exact hj | 2, hj => exact hj | 3, hj => exact hj | 4, hj => exact hj | 5, hj => exact hj | 6, hj => exact hj | 7, hj => exact hj | n + 8, hj => cases hj)) hS246 ?_
                      refine GoH.takeF 8 (.agg #[.int .i64 (h.op), .string (sb (h.field)), .string (sb (h.text)), .int .i64 0, .int .i64 0, .int .u64 0, .int .u64 0, v]) (fun W_ => (Instr.loadAt 25 (pq b2)).run Try.prog W_ = .ok (.agg #[.int .i64 (h.op), .string (sb (h.field)), .string (sb (h.text)), .int .i64 0, .int .i64 0, .int .u64 0, .int .u64 0, v]) W_) (some 89) (fun W_ => by kernel_rfl) (fun W_ hW_ => c_loads (ys := [.int .i64 (h.op), .string (sb (h.field)), .string (sb (h.text)), .int .i64 0, .int .i64 0, .int .u64 0, .int .u64 0, v]) aE25 (hW_.rd 0 rfl) (cel_obj b2 0) rfl (by intro j u hj; match j, hj with | 0, hj => exact hj | 1, hj => exact hj | 2, hj => exact hj | 3, hj => exact hj | 4, hj => exact hj | 5, hj => exact hj | 6, hj => exact hj | 7, hj => exact hj | n + 8, hj => cases hj)) hS246 ?_
                      refine GoH.callF 7 21 #[(qA h v)] (some 88) (by kernel_rfl) (flat_c (w := w243) h v) ?_
                      rintro _ w248 ⟨rfl, m249⟩
                      have hM250 := Mem.join hM245 m249
                      have hS251 : Mem [] w0 w248 [⟨25, 8, (obj b2), 1, [.int .i64 (h.op), .string (sb (h.field)), .string (sb (h.text)), .int .i64 0, .int .i64 0, .int .u64 0, .int .u64 0, v]⟩, ⟨25, 8, (obj b), 1, (qR h v)⟩] := hM250.sub (cc (cc (List.Sublist.refl _)))
                      refine ⟨(qH h), rfl, .inr hS251, ?_⟩
                      refine GoH.callF 9 21 #[.agg #[.int .i64 (h.op), .string (sb (h.field)), .string (sb (h.text)), .int .i64 0, .int .i64 0, .int .u64 0, .int .u64 0, v]] (some 90) (by kernel_rfl) (flat_c (w := w248) (Hd.mk (h.op) (h.field) (h.text) 0 0 0 0) v) ?_
                      rintro _ w252 ⟨rfl, m253⟩
                      have hM254 := Mem.join hM250 m253
                      have hS255 : Mem [] w0 w252 [⟨25, 8, (obj b2), 1, [.int .i64 (h.op), .string (sb (h.field)), .string (sb (h.text)), .int .i64 0, .int .i64 0, .int .u64 0, .int .u64 0, v]⟩, ⟨25, 8, (obj b), 1, (qR h v)⟩] := hM254.sub (cc (cc (List.Sublist.refl _)))
                      refine ⟨.agg #[.int .i64 (h.op), .string (sb (h.field)), .string (sb (h.text)), .int .i64 0, .int .i64 0, .int .u64 0, .int .u64 0], rfl, .inr hS255, ?_⟩
                      refine GoH.takeF 10 (.bool (nothP h true false false)) (fun W_ => Try.prog.eqGuardType Try.prog.depth 38 = false ∧ (binOp .eql 38 ((qH h)) (.agg #[.int .i64 (h.op), .string (sb (h.field)), .string (sb (h.text)), .int .i64 0, .int .i64 0, .int .u64 0, .int .u64 0])).run Try.prog W_ = .ok (.bool (nothP h true false false)) W_) (some 91) (fun W_ => by kernel_rfl) (fun W_ hW_ => f_ageq eT38 (xs := [.int .i64 (h.op), .string (sb (h.field)), .string (sb (h.text)), .int .i64 (h.edits), .int .i64 (h.exact), .int .u64 (h.lo), .int .u64 (h.hi)]) (ys := [.int .i64 (h.op), .string (sb (h.field)), .string (sb (h.text)), .int .i64 0, .int .i64 0, .int .u64 0, .int .u64 0]) (r := ((h.op == h.op) && (((sb (h.field)).toList == (sb (h.field)).toList) && (((sb (h.text)).toList == (sb (h.text)).toList) && ((h.edits == 0) && ((h.exact == 0) && ((h.lo == 0) && ((h.hi == 0) && true)))))))) (by kernel_rfl) (noth_t h)) hS255 ?_
                      refine GoH.takeV 11 (.bool (nothP h true false false)) (.bool (nothP h true false false)) (some 92) (fun W_ => by kernel_rfl) rfl hS255 ?_
                      refine GoH.takeV 12 (.bool (nothP h true false false)) (.bool (nothP h true false false)) (some 2) (fun W_ => by kernel_rfl) rfl hS255 ?_
                      refine GoH.done [2] [(2, .bool (nothP h true false false))] (by kernel_rfl) (by kernel_rfl) ?_
                      have hM256 : Mem [] w0 w252 [] := hM254.sub (cn (cn (List.Sublist.refl _)))
                      refine GoS.ret (fn := Try.f19) (v := (.bool (nothP h true false false))) Try.func19 (by kernel_rfl) ?_
                      rw [hR]
                      have hall : rightL q.l = true := by rw [← tk_all (l := q.l) (i := i) (by omega)]; exact hRt
                      have hro := right_of hall
                      rw [← he] at hro
                      exact ⟨ret_bool (by rw [hro, node_word (by omega) (by have z := h220; simpa using z) (of_decide_eq_true (by have z := h226; simpa [wordsP] using z)) (by omega), if_neg (by omega)]), hM256.sub (List.nil_sublist _)⟩
                    ·
                      have h247p : ¬ ((((List.length L) : Nat) : Int) = 0) := p_ne h247
                      refine GoH.takeV 5 (.bool ((((List.length L) : Nat) : Int) == 0)) (.bool false) (some 86) (fun W_ => by kernel_rfl) (congrArg Value.bool h247) hS246 ?_
                      refine GoH.skipF 6 (some 87) (by kernel_rfl) hS246 ?_
                      refine GoH.skipF 7 (some 88) (by kernel_rfl) hS246 ?_
                      refine GoH.skipF 8 (some 89) (by kernel_rfl) hS246 ?_
                      refine GoH.skipF 9 (some 90) (by kernel_rfl) hS246 ?_
                      refine GoH.skipF 10 (some 91) (by kernel_rfl) hS246 ?_
                      refine GoH.takeV 11 (.bool false) (.bool false) (some 92) (fun W_ => by kernel_rfl) rfl hS246 ?_
                      refine GoH.takeV 12 (.bool false) (.bool false) (some 2) (fun W_ => by kernel_rfl) rfl hS246 ?_
                      refine GoH.done [2] [(2, .bool false)] (by kernel_rfl) (by kernel_rfl) ?_
                      have hM257 : Mem [] w0 w243 [] := hM245.sub (cn (cn (List.Sublist.refl _)))
                      refine GoS.ret (fn := Try.f19) (v := (.bool false)) Try.func19 (by kernel_rfl) ?_
                      rw [hR]
                      have hall : rightL q.l = true := by rw [← tk_all (l := q.l) (i := i) (by omega)]; exact hRt
                      have hro := right_of hall
                      rw [← he] at hro
                      exact ⟨ret_bool (by rw [hro, node_many (by omega) (by omega)]), hM257.sub (List.nil_sublist _)⟩
            ·
              rw [h19] at h179; cases h179
          ·
            have h19p : ¬ (h.op = 3) := p_ne h19
            refine GoS.run [1, 5, 6, 24, 25] [.n, .n, .n, .n, .n] _ [.code (csub (cd Try.f19) [1,1,1,1,0,1,0,0,1,1,1,1,1,1,1]), .code (csub (cd Try.f19) [1,1,1,1,0,1,0,1]), .inBlock 2, .code (csub (cd Try.f19) [1,1,1,1,1])] [(1, pq b), (5, pq b2), (6, .int .i64 0), (24, .int .i64 (h.op)), (25, .bool (h.op == 4))] w7 (by kernel_rfl) .nil ?_
            refine GoS.cond (h.op == 4) [.code (csub (cd Try.f19) [1,1,1,1,0,1,0,0,1,1,1,1,1,1,1,0]), .code (csub (cd Try.f19) [1,1,1,1,0,1,0,1]), .inBlock 2, .code (csub (cd Try.f19) [1,1,1,1,1])] [.code (csub (cd Try.f19) [1,1,1,1,0,1,0,0,1,1,1,1,1,1,1,1]), .code (csub (cd Try.f19) [1,1,1,1,0,1,0,1]), .inBlock 2, .code (csub (cd Try.f19) [1,1,1,1,1])] (by kernel_rfl) (fun h20 => ?_) (fun h20 => ?_)
            ·
              have h20p : h.op = 4 := eq_of_beq h20
              refine GoS.run [1, 5, 6, 24, 25] [.n] _ [.code (csub (cd Try.f19) [1,1,1,1,0,1,0,1]), .inBlock 2, .code (csub (cd Try.f19) [1,1,1,1,1])] [(1, pq b), (5, pq b2), (6, .int .i64 0), (24, .int .i64 (h.op)), (25, .bool (h.op == 4))] w7 (by kernel_rfl) .nil ?_
              refine GoS.cond (h.op == 4) [.code (csub (cd Try.f19) [1,1,1,1,0,1,0,1,0]), .inBlock 2, .code (csub (cd Try.f19) [1,1,1,1,1])] [.code (csub (cd Try.f19) [1,1,1,1,0,1,0,1,1]), .inBlock 2, .code (csub (cd Try.f19) [1,1,1,1,1])] (by kernel_rfl) (fun h258 => ?_) (fun h258 => ?_)
              ·
                have h258p : h.op = 4 := eq_of_beq h258
                refine GoS.run [1, 5, 6] [.n] _ [.code (csub (cd Try.f19) [1,1,1,1,0,1,0,1,0,0]), .code (csub (cd Try.f19) [1,1,1,1,0,1,0,1,0,1]), .inBlock 2, .code (csub (cd Try.f19) [1,1,1,1,1])] [(1, pq b), (5, pq b2), (6, .int .i64 0)] w7 (by kernel_rfl) .nil ?_
                obtain ⟨w259, hw260⟩ : ∃ w_, (w7).drewN 1 = w_ := ⟨_, rfl⟩
                refine GoS.held (fun W_ => Mem [] w0 W_ [⟨25, 8, (obj b), 1, (qR h v)⟩]) [] 16 (by kernel_rfl) (by kernel_rfl) 8 (by kernel_rfl) ?_
                rw [hw260]
                have hM261 : Mem [] w0 w259 [⟨25, 8, (obj b2), 1, [.int .i64 (h.op), .string (sb ([])), .string (sb ([])), .int .i64 0, .int .i64 0, .int .u64 0, .int .u64 0, v]⟩, ⟨25, 8, (obj b), 1, (qR h v)⟩] := hw260 ▸ hM10.ext (Kept.drewN _ _ 1)
                have hS262 : Mem [] w0 w259 [⟨25, 8, (obj b), 1, (qR h v)⟩] := hM261.sub (cn (cc (List.Sublist.refl _)))
                refine GoH.takeV 0 (.pointer (some (⟨b, 1, none⟩))) (.pointer (some (⟨b, 1, none⟩))) (some 31) (fun W_ => by kernel_rfl) rfl hS262 ?_
                refine GoH.takeF 1 (.string (sb (h.field))) (fun W_ => (Instr.loadAt 9 (.pointer (some (⟨b, 1, none⟩)))).run Try.prog W_ = .ok (.string (sb (h.field))) W_) (some 32) (fun W_ => by kernel_rfl) (fun W_ hW_ => c_load pE9 (hW_.rd 0 rfl) (cel_obj b 1) rfl) hS262 ?_
                refine GoH.takeV 2 (.pointer (some (⟨b, 2, none⟩))) (.pointer (some (⟨b, 2, none⟩))) (some 33) (fun W_ => by kernel_rfl) rfl hS262 ?_
                refine GoH.takeF 3 (.string (sb (h.text))) (fun W_ => (Instr.loadAt 9 (.pointer (some (⟨b, 2, none⟩)))).run Try.prog W_ = .ok (.string (sb (h.text))) W_) (some 34) (fun W_ => by kernel_rfl) (fun W_ hW_ => c_load pE9 (hW_.rd 0 rfl) (cel_obj b 2) rfl) hS262 ?_
                refine GoH.takeV 4 (.pointer (some (⟨b2, 1, none⟩))) (.pointer (some (⟨b2, 1, none⟩))) (some 35) (fun W_ => by kernel_rfl) rfl hS262 ?_
                obtain ⟨w263, hr264, hM265⟩ := c_store (u := .string (sb (h.field))) (by kernel_rfl) hM261 0 rfl (cel_obj b2 1) (by decide) rfl rfl
                have hM266 : Mem [] w0 w263 [⟨25, 8, (obj b2), 1, [.int .i64 (h.op), .string (sb (h.field)), .string (sb ([])), .int .i64 0, .int .i64 0, .int .u64 0, .int .u64 0, v]⟩, ⟨25, 8, (obj b), 1, (qR h v)⟩] := hM265
                have hS267 : Mem [] w0 w263 [⟨25, 8, (obj b), 1, (qR h v)⟩] := hM266.sub (cn (cc (List.Sublist.refl _)))
                refine GoH.stepF 5 (undef) (w263) ((Instr.storeAt 9 (.pointer (some (⟨b2, 1, none⟩))) (.string (sb (h.field)))).run Try.prog w259 = .ok () w263 ∧ undef = undef) none (by kernel_rfl) (⟨hr264, rfl⟩) (.inr hS267) ?_
                refine GoH.takeV 6 (.pointer (some (⟨b2, 2, none⟩))) (.pointer (some (⟨b2, 2, none⟩))) (some 36) (fun W_ => by kernel_rfl) rfl hS267 ?_
                obtain ⟨w268, hr269, hM270⟩ := c_store (u := .string (sb (h.text))) (by kernel_rfl) hM266 0 rfl (cel_obj b2 2) (by decide) rfl rfl
                have hM271 : Mem [] w0 w268 [⟨25, 8, (obj b2), 1, [.int .i64 (h.op), .string (sb (h.field)), .string (sb (h.text)), .int .i64 0, .int .i64 0, .int .u64 0, .int .u64 0, v]⟩, ⟨25, 8, (obj b), 1, (qR h v)⟩] := hM270
                have hS272 : Mem [] w0 w268 [⟨25, 8, (obj b), 1, (qR h v)⟩] := hM271.sub (cn (cc (List.Sublist.refl _)))
                refine GoH.stepF 7 (undef) (w268) ((Instr.storeAt 9 (.pointer (some (⟨b2, 2, none⟩))) (.string (sb (h.text)))).run Try.prog w263 = .ok () w268 ∧ undef = undef) none (by kernel_rfl) (⟨hr269, rfl⟩) (.inr hS272) ?_
                refine GoH.done [1, 5, 6] [(1, pq b), (5, pq b2), (6, .int .i64 0)] (by kernel_rfl) (by kernel_rfl) ?_
                have o273 : (Instr.loadAt 3 (pq b)).run Try.prog w268 = .ok (.int .i64 (h.op)) w268 := c_load pE3 (hM271.rd 1 rfl) (cel_obj b 0) rfl
                refine GoS.run [1, 5, 6, 39] [.n, .n, .n, .n, .h (.int .i64 (h.op)), .n, .n] _ [.code (csub (cd Try.f19) [1,1,1,1,0,1,0,1,0,1,0,1]), .code (csub (cd Try.f19) [1,1,1,1,0,1,0,1,0,1,1]), .inBlock 2, .code (csub (cd Try.f19) [1,1,1,1,1])] [(1, pq b), (5, pq b2), (6, .int .i64 0), (39, .bool (h.op == 4))] w268 (by kernel_rfl) (.cons o273 .nil) ?_
                refine GoS.cond (h.op == 4) [.code (csub (cd Try.f19) [1,1,1,1,0,1,0,1,0,1,0,1,0]), .code (csub (cd Try.f19) [1,1,1,1,0,1,0,1,0,1,1]), .inBlock 2, .code (csub (cd Try.f19) [1,1,1,1,1])] [.code (csub (cd Try.f19) [1,1,1,1,0,1,0,1,0,1,0,1,1]), .code (csub (cd Try.f19) [1,1,1,1,0,1,0,1,0,1,1]), .inBlock 2, .code (csub (cd Try.f19) [1,1,1,1,1])] (by kernel_rfl) (fun h274 => ?_) (fun h274 => ?_)
                ·
                  have h274p : h.op = 4 := eq_of_beq h274
                  obtain ⟨w275, hw276⟩ : ∃ w_, (w268).drewN 1 = w_ := ⟨_, rfl⟩
                  refine GoS.held (fun W_ => Mem [] w0 W_ [⟨25, 8, (obj b), 1, (qR h v)⟩]) [] 18 (by kernel_rfl) (by kernel_rfl) 8 (by kernel_rfl) ?_
                  rw [hw276]
                  have hM277 : Mem [] w0 w275 [⟨25, 8, (obj b2), 1, [.int .i64 (h.op), .string (sb (h.field)), .string (sb (h.text)), .int .i64 0, .int .i64 0, .int .u64 0, .int .u64 0, v]⟩, ⟨25, 8, (obj b), 1, (qR h v)⟩] := hw276 ▸ hM271.ext (Kept.drewN _ _ 1)
                  have hS278 : Mem [] w0 w275 [⟨25, 8, (obj b), 1, (qR h v)⟩] := hM277.sub (cn (cc (List.Sublist.refl _)))
                  refine GoH.takeV 0 (.pointer (some (⟨b, 3, none⟩))) (.pointer (some (⟨b, 3, none⟩))) (some 40) (fun W_ => by kernel_rfl) rfl hS278 ?_
                  refine GoH.takeF 1 (.int .i64 (h.edits)) (fun W_ => (Instr.loadAt 3 (.pointer (some (⟨b, 3, none⟩)))).run Try.prog W_ = .ok (.int .i64 (h.edits)) W_) (some 41) (fun W_ => by kernel_rfl) (fun W_ hW_ => c_load pE3 (hW_.rd 0 rfl) (cel_obj b 3) rfl) hS278 ?_
                  refine GoH.takeV 2 (.pointer (some (⟨b, 4, none⟩))) (.pointer (some (⟨b, 4, none⟩))) (some 42) (fun W_ => by kernel_rfl) rfl hS278 ?_
                  refine GoH.takeF 3 (.int .i64 (h.exact)) (fun W_ => (Instr.loadAt 3 (.pointer (some (⟨b, 4, none⟩)))).run Try.prog W_ = .ok (.int .i64 (h.exact)) W_) (some 43) (fun W_ => by kernel_rfl) (fun W_ hW_ => c_load pE3 (hW_.rd 0 rfl) (cel_obj b 4) rfl) hS278 ?_
                  refine GoH.takeV 4 (.pointer (some (⟨b2, 3, none⟩))) (.pointer (some (⟨b2, 3, none⟩))) (some 44) (fun W_ => by kernel_rfl) rfl hS278 ?_
                  obtain ⟨w279, hr280, hM281⟩ := c_store (u := .int .i64 (h.edits)) (by kernel_rfl) hM277 0 rfl (cel_obj b2 3) (by decide) rfl rfl
                  have hM282 : Mem [] w0 w279 [⟨25, 8, (obj b2), 1, [.int .i64 (h.op), .string (sb (h.field)), .string (sb (h.text)), .int .i64 (h.edits), .int .i64 0, .int .u64 0, .int .u64 0, v]⟩, ⟨25, 8, (obj b), 1, (qR h v)⟩] := hM281
                  have hS283 : Mem [] w0 w279 [⟨25, 8, (obj b), 1, (qR h v)⟩] := hM282.sub (cn (cc (List.Sublist.refl _)))
                  refine GoH.stepF 5 (undef) (w279) ((Instr.storeAt 3 (.pointer (some (⟨b2, 3, none⟩))) (.int .i64 (h.edits))).run Try.prog w275 = .ok () w279 ∧ undef = undef) none (by kernel_rfl) (⟨hr280, rfl⟩) (.inr hS283) ?_
                  refine GoH.takeV 6 (.pointer (some (⟨b2, 4, none⟩))) (.pointer (some (⟨b2, 4, none⟩))) (some 45) (fun W_ => by kernel_rfl) rfl hS283 ?_
                  obtain ⟨w284, hr285, hM286⟩ := c_store (u := .int .i64 (h.exact)) (by kernel_rfl) hM282 0 rfl (cel_obj b2 4) (by decide) rfl rfl
                  have hM287 : Mem [] w0 w284 [⟨25, 8, (obj b2), 1, [.int .i64 (h.op), .string (sb (h.field)), .string (sb (h.text)), .int .i64 (h.edits), .int .i64 (h.exact), .int .u64 0, .int .u64 0, v]⟩, ⟨25, 8, (obj b), 1, (qR h v)⟩] := hM286
                  have hS288 : Mem [] w0 w284 [⟨25, 8, (obj b), 1, (qR h v)⟩] := hM287.sub (cn (cc (List.Sublist.refl _)))
                  refine GoH.stepF 7 (undef) (w284) ((Instr.storeAt 3 (.pointer (some (⟨b2, 4, none⟩))) (.int .i64 (h.exact))).run Try.prog w279 = .ok () w284 ∧ undef = undef) none (by kernel_rfl) (⟨hr285, rfl⟩) (.inr hS288) ?_
                  refine GoH.done [1, 5, 6] [(1, pq b), (5, pq b2), (6, .int .i64 0)] (by kernel_rfl) (by kernel_rfl) ?_
                  have o289 : (Instr.loadAt 9 (.pointer (some (⟨b, 1, none⟩)))).run Try.prog w284 = .ok (.string (sb (h.field))) w284 := c_load pE9 (hM287.rd 1 rfl) (cel_obj b 1) rfl
                  refine GoS.run [1, 5, 6, 47] [.n, .n, .n, .h (.string (sb (h.field)))] _ [.inRegion (cops (csub (cd Try.f19) [1,1,1,1,0,1,0,1,0,1,1,0])) [2,3,4,5,6,7,8], .code (csub (cd Try.f19) [1,1,1,1,0,1,0,1,0,1,1,1]), .inBlock 2, .code (csub (cd Try.f19) [1,1,1,1,1])] [(1, pq b), (5, pq b2), (6, .int .i64 0), (47, .string (sb (h.field)))] w284 (by kernel_rfl) (.cons o289 .nil) ?_
                  refine GoS.call [1, 5, 6] 22 #[.string (sb (h.field))] (some 48) [.inRegion (cops (csub (cd Try.f19) [1,1,1,1,0,1,0,1,0,1,1,0])) [3,4,5,6,7,8], .code (csub (cd Try.f19) [1,1,1,1,0,1,0,1,0,1,1,1]), .inBlock 2, .code (csub (cd Try.f19) [1,1,1,1,1])] [(1, pq b), (5, pq b2), (6, .int .i64 0)] (by kernel_rfl) (name_c (h.field) (by rw [he]; omega) w284) ?_
                  rintro _ _ ⟨rfl, rfl⟩
                  refine ⟨_, rfl, ?_⟩
                  refine GoS.run [1, 5, 6, 50] [.n, .n] _ [.inRegion (cops (csub (cd Try.f19) [1,1,1,1,0,1,0,1,0,1,1,0])) [5,6,7,8], .code (csub (cd Try.f19) [1,1,1,1,0,1,0,1,0,1,1,1]), .inBlock 2, .code (csub (cd Try.f19) [1,1,1,1,1])] [(1, pq b), (5, pq b2), (6, .int .i64 0), (50, .bool (!(nameP (h.field))))] w284 (by kernel_rfl) .nil ?_
                  refine GoS.fork 50 (!(nameP (h.field))) (by kernel_rfl) (fun h290 => ?_) (fun h290 => ?_)
                  ·
                    refine GoS.run [1, 5, 6, 54] [.n, .n, .n, .n] _ [.inRegion (cops (csub (cd Try.f19) [1,1,1,1,0,1,0,1,0,1,1,0])) [], .code (csub (cd Try.f19) [1,1,1,1,0,1,0,1,0,1,1,1]), .inBlock 2, .code (csub (cd Try.f19) [1,1,1,1,1])] [(1, pq b), (5, pq b2), (6, .int .i64 0), (54, .bool true)] w284 (by kernel_rfl) .nil ?_
                    have hM295 : Mem [] w0 w284 [] := hM287.sub (cn (cn (List.Sublist.refl _)))
                    refine GoS.run [2] [.n, .n, .n, .n, .n, .n] _ [.code (csub (cd Try.f19) [1,1,1,1,0,1,0,1,0,1,1,1,0,1]), .inBlock 2, .code (csub (cd Try.f19) [1,1,1,1,1])] [(2, .bool false)] w284 (by kernel_rfl) .nil ?_
                    refine GoS.ret (fn := Try.f19) (v := (.bool false)) Try.func19 (by kernel_rfl) ?_
                    rw [hR]
                    have hall : rightL q.l = true := by rw [← tk_all (l := q.l) (i := i) (by omega)]; exact hRt
                    have hro := right_of hall
                    rw [← he] at hro
                    exact ⟨ret_bool (by rw [hro, node_name (by omega) (by have z := h290; simpa using z)]), hM295.sub (List.nil_sublist _)⟩
                  ·
                    have o291 : (Instr.loadAt 25 (pq b)).run Try.prog w284 = .ok ((qA h v)) w284 := c_loads (ys := (qR h v)) aE25 (hM287.rd 1 rfl) (cel_obj b 0) rfl (by intro j u hj; match j, hj with | 0, hj => exact hj | 1, hj => exact hj | 2, hj => exact hj | 3, hj => exact hj | 4, hj => exact hj | 5, hj => exact hj | 6, hj => exact hj | 7, hj => exact hj | n + 8, hj => cases hj)
                    refine GoS.run [1, 5, 6, 50, 51] [.h ((qA h v))] _ [.inRegion (cops (csub (cd Try.f19) [1,1,1,1,0,1,0,1,0,1,1,0])) [6,7,8], .code (csub (cd Try.f19) [1,1,1,1,0,1,0,1,0,1,1,1]), .inBlock 2, .code (csub (cd Try.f19) [1,1,1,1,1])] [(1, pq b), (5, pq b2), (6, .int .i64 0), (50, .bool false), (51, (qA h v))] w284 (by kernel_rfl) (.cons o291 .nil) ?_
                    refine GoS.call [1, 5, 6, 50] 23 #[(qA h v)] (some 52) [.inRegion (cops (csub (cd Try.f19) [1,1,1,1,0,1,0,1,0,1,1,0])) [7,8], .code (csub (cd Try.f19) [1,1,1,1,0,1,0,1,0,1,1,1]), .inBlock 2, .code (csub (cd Try.f19) [1,1,1,1,1])] [(1, pq b), (5, pq b2), (6, .int .i64 0), (50, .bool false)] (by kernel_rfl) (words_c q h he v (hq.kept hM287.kept) (by omega)) ?_
                    rintro _ w292 ⟨rfl, m293⟩
                    refine ⟨_, rfl, ?_⟩
                    have hM294 := Mem.join hM287 m293
                    refine GoS.run [1, 5, 6, 54] [.n, .n] _ [.inRegion (cops (csub (cd Try.f19) [1,1,1,1,0,1,0,1,0,1,1,0])) [], .code (csub (cd Try.f19) [1,1,1,1,0,1,0,1,0,1,1,1]), .inBlock 2, .code (csub (cd Try.f19) [1,1,1,1,1])] [(1, pq b), (5, pq b2), (6, .int .i64 0), (54, .bool (!(wordsP h)))] w292 (by kernel_rfl) .nil ?_
                    refine GoS.run [1, 5, 6, 54] [.n] _ [.code (csub (cd Try.f19) [1,1,1,1,0,1,0,1,0,1,1,1]), .inBlock 2, .code (csub (cd Try.f19) [1,1,1,1,1])] [(1, pq b), (5, pq b2), (6, .int .i64 0), (54, .bool (!(wordsP h)))] w292 (by kernel_rfl) .nil ?_
                    refine GoS.cond (!(wordsP h)) [.code (csub (cd Try.f19) [1,1,1,1,0,1,0,1,0,1,1,1,0]), .inBlock 2, .code (csub (cd Try.f19) [1,1,1,1,1])] [.code (csub (cd Try.f19) [1,1,1,1,0,1,0,1,0,1,1,1,1]), .inBlock 2, .code (csub (cd Try.f19) [1,1,1,1,1])] (by kernel_rfl) (fun h296 => ?_) (fun h296 => ?_)
                    ·
                      have hM297 : Mem [] w0 w292 [] := hM294.sub (cn (cn (List.Sublist.refl _)))
                      refine GoS.run [2] [.n, .n, .n, .n] _ [.code (csub (cd Try.f19) [1,1,1,1,0,1,0,1,0,1,1,1,0,1]), .inBlock 2, .code (csub (cd Try.f19) [1,1,1,1,1])] [(2, .bool false)] w292 (by kernel_rfl) .nil ?_
                      refine GoS.ret (fn := Try.f19) (v := (.bool false)) Try.func19 (by kernel_rfl) ?_
                      rw [hR]
                      have hall : rightL q.l = true := by rw [← tk_all (l := q.l) (i := i) (by omega)]; exact hRt
                      have hro := right_of hall
                      rw [← he] at hro
                      exact ⟨ret_bool (by rw [hro, node_noword (by omega) (of_decide_eq_false (by have z := h296; simpa [wordsP] using z))]), hM297.sub (List.nil_sublist _)⟩
                    ·
                      refine GoS.run [1, 5, 6] [.n] _ [.inBlock 2, .code (csub (cd Try.f19) [1,1,1,1,1])] [(1, pq b), (5, pq b2), (6, .int .i64 0)] w292 (by kernel_rfl) .nil ?_
                      refine GoS.run [1, 5, 6] [.n, .n] _ [.code (csub (cd Try.f19) [1,1,1,1,1,0]), .code (csub (cd Try.f19) [1,1,1,1,1,1])] [(1, pq b), (5, pq b2), (6, .int .i64 0)] w292 (by kernel_rfl) .nil ?_
                      obtain ⟨w298, hw299⟩ : ∃ w_, (w292).drewN 1 = w_ := ⟨_, rfl⟩
                      refine GoS.held (fun W_ => Mem [] w0 W_ [⟨25, 8, (obj b2), 1, [.int .i64 (h.op), .string (sb (h.field)), .string (sb (h.text)), .int .i64 (h.edits), .int .i64 (h.exact), .int .u64 0, .int .u64 0, v]⟩, ⟨25, 8, (obj b), 1, (qR h v)⟩]) [] 31 (by kernel_rfl) (by kernel_rfl) 13 (by kernel_rfl) ?_
                      rw [hw299]
                      have hM300 : Mem [] w0 w298 [⟨25, 8, (obj b2), 1, [.int .i64 (h.op), .string (sb (h.field)), .string (sb (h.text)), .int .i64 (h.edits), .int .i64 (h.exact), .int .u64 0, .int .u64 0, v]⟩, ⟨25, 8, (obj b), 1, (qR h v)⟩] := hw299 ▸ hM294.ext (Kept.drewN _ _ 1)
                      have hS301 : Mem [] w0 w298 [⟨25, 8, (obj b2), 1, [.int .i64 (h.op), .string (sb (h.field)), .string (sb (h.text)), .int .i64 (h.edits), .int .i64 (h.exact), .int .u64 0, .int .u64 0, v]⟩, ⟨25, 8, (obj b), 1, (qR h v)⟩] := hM300.sub (cc (cc (List.Sublist.refl _)))
                      refine GoH.takeV 0 (.pointer (some (⟨b, 7, none⟩))) (.pointer (some (⟨b, 7, none⟩))) (some 81) (fun W_ => by kernel_rfl) rfl hS301 ?_
                      refine GoH.takeF 1 (v) (fun W_ => (Instr.loadAt 23 (.pointer (some (⟨b, 7, none⟩)))).run Try.prog W_ = .ok (v) W_) (some 82) (fun W_ => by kernel_rfl) (fun W_ hW_ => c_load pE23 (hW_.rd 1 rfl) (cel_obj b 7) rfl) hS301 ?_
                      refine GoH.takeF 2 (.int .i64 (((List.length L) : Nat) : Int)) (fun W_ => (Builtin.len_ #[23] 3 #[v]).run Try.prog W_ = .ok (.int .i64 (((List.length L) : Nat) : Int)) W_) (some 83) (fun W_ => by kernel_rfl) (fun W_ hW_ => f_slen sT23 (hr.kept0 hW_.kept) 3 _) hS301 ?_
                      refine GoH.takeV 3 (.int .i64 0) (.int .i64 0) (some 84) (fun W_ => by kernel_rfl) rfl hS301 ?_
                      refine GoH.takeV 4 (.bool ((((List.length L) : Nat) : Int) == 0)) (.bool ((((List.length L) : Nat) : Int) == 0)) (some 85) (fun W_ => by kernel_rfl) rfl hS301 ?_
                      rcases Bool.eq_false_or_eq_true ((((List.length L) : Nat) : Int) == 0) with h302 | h302
                      ·
                        have h302p : (((List.length L) : Nat) : Int) = 0 := eq_of_beq h302
                        refine GoH.takeV 5 (.bool ((((List.length L) : Nat) : Int) == 0)) (.bool true) (some 86) (fun W_ => by kernel_rfl) (congrArg Value.bool h302) hS301 ?_
                        refine GoH.takeF 6 ((qA h v)) (fun W_ => (Instr.loadAt 25 (pq b)).run Try.prog W_ = .ok ((qA h v)) W_) (some 87) (fun W_ => by kernel_rfl) (fun W_ hW_ => c_loads (ys := (qR h v)) aE25 (hW_.rd 1 rfl) (cel_obj b 0) rfl (by intro j u hj; match j, hj with | 0, hj => exact hj | 1, hj => exact hj | 2, hj => exact hj | 3, hj => exact hj | 4, hj => exact hj | 5, hj => exact hj | 6, hj => exact hj | 7, hj => exact hj | n + 8, hj => cases hj)) hS301 ?_
                        refine GoH.takeF 8 (.agg #[.int .i64 (h.op), .string (sb (h.field)), .string (sb (h.text)), .int .i64 (h.edits), .int .i64 (h.exact), .int .u64 0, .int .u64 0, v]) (fun W_ => (Instr.loadAt 25 (pq b2)).run Try.prog W_ = .ok (.agg #[.int .i64 (h.op), .string (sb (h.field)), .string (sb (h.text)), .int .i64 (h.edits), .int .i64 (h.exact), .int .u64 0, .int .u64 0, v]) W_) (some 89) (fun W_ => by kernel_rfl) (fun W_ hW_ => c_loads (ys := [.int .i64 (h.op), .string (sb (h.field)), .string (sb (h.text)), .int .i64 (h.edits), .int .i64 (h.exact), .int .u64 0, .int .u64 0, v]) aE25 (hW_.rd 0 rfl) (cel_obj b2 0) rfl (by intro j u hj; match j, hj with | 0, hj => exact hj | 1, hj => exact hj | 2, hj => exact hj | 3, hj => exact hj | 4, hj => exact hj | 5, hj => exact hj | 6, hj => exact hj | 7, hj => exact hj | n + 8, hj => cases hj)) hS301 ?_
                        refine GoH.callF 7 21 #[(qA h v)] (some 88) (by kernel_rfl) (flat_c (w := w298) h v) ?_
                        rintro _ w303 ⟨rfl, m304⟩
                        have hM305 := Mem.join hM300 m304
                        have hS306 : Mem [] w0 w303 [⟨25, 8, (obj b2), 1, [.int .i64 (h.op), .string (sb (h.field)), .string (sb (h.text)), .int .i64 (h.edits), .int .i64 (h.exact), .int .u64 0, .int .u64 0, v]⟩, ⟨25, 8, (obj b), 1, (qR h v)⟩] := hM305.sub (cc (cc (List.Sublist.refl _)))
                        refine ⟨(qH h), rfl, .inr hS306, ?_⟩
                        refine GoH.callF 9 21 #[.agg #[.int .i64 (h.op), .string (sb (h.field)), .string (sb (h.text)), .int .i64 (h.edits), .int .i64 (h.exact), .int .u64 0, .int .u64 0, v]] (some 90) (by kernel_rfl) (flat_c (w := w303) (Hd.mk (h.op) (h.field) (h.text) (h.edits) (h.exact) 0 0) v) ?_
                        rintro _ w307 ⟨rfl, m308⟩
                        have hM309 := Mem.join hM305 m308
                        have hS310 : Mem [] w0 w307 [⟨25, 8, (obj b2), 1, [.int .i64 (h.op), .string (sb (h.field)), .string (sb (h.text)), .int .i64 (h.edits), .int .i64 (h.exact), .int .u64 0, .int .u64 0, v]⟩, ⟨25, 8, (obj b), 1, (qR h v)⟩] := hM309.sub (cc (cc (List.Sublist.refl _)))
                        refine ⟨.agg #[.int .i64 (h.op), .string (sb (h.field)), .string (sb (h.text)), .int .i64 (h.edits), .int .i64 (h.exact), .int .u64 0, .int .u64 0], rfl, .inr hS310, ?_⟩
                        refine GoH.takeF 10 (.bool (nothP h true true false)) (fun W_ => Try.prog.eqGuardType Try.prog.depth 38 = false ∧ (binOp .eql 38 ((qH h)) (.agg #[.int .i64 (h.op), .string (sb (h.field)), .string (sb (h.text)), .int .i64 (h.edits), .int .i64 (h.exact), .int .u64 0, .int .u64 0])).run Try.prog W_ = .ok (.bool (nothP h true true false)) W_) (some 91) (fun W_ => by kernel_rfl) (fun W_ hW_ => f_ageq eT38 (xs := [.int .i64 (h.op), .string (sb (h.field)), .string (sb (h.text)), .int .i64 (h.edits), .int .i64 (h.exact), .int .u64 (h.lo), .int .u64 (h.hi)]) (ys := [.int .i64 (h.op), .string (sb (h.field)), .string (sb (h.text)), .int .i64 (h.edits), .int .i64 (h.exact), .int .u64 0, .int .u64 0]) (r := ((h.op == h.op) && (((sb (h.field)).toList == (sb (h.field)).toList) && (((sb (h.text)).toList == (sb (h.text)).toList) && ((h.edits == h.edits) && ((h.exact == h.exact) && ((h.lo == 0) && ((h.hi == 0) && true)))))))) (by kernel_rfl) (noth_f h)) hS310 ?_
                        refine GoH.takeV 11 (.bool (nothP h true true false)) (.bool (nothP h true true false)) (some 92) (fun W_ => by kernel_rfl) rfl hS310 ?_
                        refine GoH.takeV 12 (.bool (nothP h true true false)) (.bool (nothP h true true false)) (some 2) (fun W_ => by kernel_rfl) rfl hS310 ?_
                        refine GoH.done [2] [(2, .bool (nothP h true true false))] (by kernel_rfl) (by kernel_rfl) ?_
                        have hM311 : Mem [] w0 w307 [] := hM309.sub (cn (cn (List.Sublist.refl _)))
                        refine GoS.ret (fn := Try.f19) (v := (.bool (nothP h true true false))) Try.func19 (by kernel_rfl) ?_
                        rw [hR]
                        have hall : rightL q.l = true := by rw [← tk_all (l := q.l) (i := i) (by omega)]; exact hRt
                        have hro := right_of hall
                        rw [← he] at hro
                        exact ⟨ret_bool (by rw [hro, node_word (by omega) (by have z := h290; simpa using z) (of_decide_eq_true (by have z := h296; simpa [wordsP] using z)) (by omega), if_pos (by omega)]), hM311.sub (List.nil_sublist _)⟩
                      ·
                        have h302p : ¬ ((((List.length L) : Nat) : Int) = 0) := p_ne h302
                        refine GoH.takeV 5 (.bool ((((List.length L) : Nat) : Int) == 0)) (.bool false) (some 86) (fun W_ => by kernel_rfl) (congrArg Value.bool h302) hS301 ?_
                        refine GoH.skipF 6 (some 87) (by kernel_rfl) hS301 ?_
                        refine GoH.skipF 7 (some 88) (by kernel_rfl) hS301 ?_
                        refine GoH.skipF 8 (some 89) (by kernel_rfl) hS301 ?_
                        refine GoH.skipF 9 (some 90) (by kernel_rfl) hS301 ?_
                        refine GoH.skipF 10 (some 91) (by kernel_rfl) hS301 ?_
                        refine GoH.takeV 11 (.bool false) (.bool false) (some 92) (fun W_ => by kernel_rfl) rfl hS301 ?_
                        refine GoH.takeV 12 (.bool false) (.bool false) (some 2) (fun W_ => by kernel_rfl) rfl hS301 ?_
                        refine GoH.done [2] [(2, .bool false)] (by kernel_rfl) (by kernel_rfl) ?_
                        have hM312 : Mem [] w0 w298 [] := hM300.sub (cn (cn (List.Sublist.refl _)))
                        refine GoS.ret (fn := Try.f19) (v := (.bool false)) Try.func19 (by kernel_rfl) ?_
                        rw [hR]
                        have hall : rightL q.l = true := by rw [← tk_all (l := q.l) (i := i) (by omega)]; exact hRt
                        have hro := right_of hall
                        rw [← he] at hro
                        exact ⟨ret_bool (by rw [hro, node_many (by omega) (by omega)]), hM312.sub (List.nil_sublist _)⟩
                ·
                  rw [h20] at h274; cases h274
              ·
                rw [h20] at h258; cases h258
            ·
              have h20p : ¬ (h.op = 4) := p_ne h20
              refine GoS.run [1, 5, 6, 24, 25] [.n, .n, .n, .n] _ [.code (csub (cd Try.f19) [1,1,1,1,0,1,0,1]), .inBlock 2, .code (csub (cd Try.f19) [1,1,1,1,1])] [(1, pq b), (5, pq b2), (6, .int .i64 0), (24, .int .i64 (h.op)), (25, .bool (h.op == 5))] w7 (by kernel_rfl) .nil ?_
              refine GoS.cond (h.op == 5) [.code (csub (cd Try.f19) [1,1,1,1,0,1,0,1,0]), .inBlock 2, .code (csub (cd Try.f19) [1,1,1,1,1])] [.code (csub (cd Try.f19) [1,1,1,1,0,1,0,1,1]), .inBlock 2, .code (csub (cd Try.f19) [1,1,1,1,1])] (by kernel_rfl) (fun h313 => ?_) (fun h313 => ?_)
              ·
                have h313p : h.op = 5 := eq_of_beq h313
                refine GoS.run [1, 5, 6] [.n] _ [.code (csub (cd Try.f19) [1,1,1,1,0,1,0,1,0,0]), .code (csub (cd Try.f19) [1,1,1,1,0,1,0,1,0,1]), .inBlock 2, .code (csub (cd Try.f19) [1,1,1,1,1])] [(1, pq b), (5, pq b2), (6, .int .i64 0)] w7 (by kernel_rfl) .nil ?_
                obtain ⟨w314, hw315⟩ : ∃ w_, (w7).drewN 1 = w_ := ⟨_, rfl⟩
                refine GoS.held (fun W_ => Mem [] w0 W_ [⟨25, 8, (obj b), 1, (qR h v)⟩]) [] 16 (by kernel_rfl) (by kernel_rfl) 8 (by kernel_rfl) ?_
                rw [hw315]
                have hM316 : Mem [] w0 w314 [⟨25, 8, (obj b2), 1, [.int .i64 (h.op), .string (sb ([])), .string (sb ([])), .int .i64 0, .int .i64 0, .int .u64 0, .int .u64 0, v]⟩, ⟨25, 8, (obj b), 1, (qR h v)⟩] := hw315 ▸ hM10.ext (Kept.drewN _ _ 1)
                have hS317 : Mem [] w0 w314 [⟨25, 8, (obj b), 1, (qR h v)⟩] := hM316.sub (cn (cc (List.Sublist.refl _)))
                refine GoH.takeV 0 (.pointer (some (⟨b, 1, none⟩))) (.pointer (some (⟨b, 1, none⟩))) (some 31) (fun W_ => by kernel_rfl) rfl hS317 ?_
                refine GoH.takeF 1 (.string (sb (h.field))) (fun W_ => (Instr.loadAt 9 (.pointer (some (⟨b, 1, none⟩)))).run Try.prog W_ = .ok (.string (sb (h.field))) W_) (some 32) (fun W_ => by kernel_rfl) (fun W_ hW_ => c_load pE9 (hW_.rd 0 rfl) (cel_obj b 1) rfl) hS317 ?_
                refine GoH.takeV 2 (.pointer (some (⟨b, 2, none⟩))) (.pointer (some (⟨b, 2, none⟩))) (some 33) (fun W_ => by kernel_rfl) rfl hS317 ?_
                refine GoH.takeF 3 (.string (sb (h.text))) (fun W_ => (Instr.loadAt 9 (.pointer (some (⟨b, 2, none⟩)))).run Try.prog W_ = .ok (.string (sb (h.text))) W_) (some 34) (fun W_ => by kernel_rfl) (fun W_ hW_ => c_load pE9 (hW_.rd 0 rfl) (cel_obj b 2) rfl) hS317 ?_
                refine GoH.takeV 4 (.pointer (some (⟨b2, 1, none⟩))) (.pointer (some (⟨b2, 1, none⟩))) (some 35) (fun W_ => by kernel_rfl) rfl hS317 ?_
                obtain ⟨w318, hr319, hM320⟩ := c_store (u := .string (sb (h.field))) (by kernel_rfl) hM316 0 rfl (cel_obj b2 1) (by decide) rfl rfl
                have hM321 : Mem [] w0 w318 [⟨25, 8, (obj b2), 1, [.int .i64 (h.op), .string (sb (h.field)), .string (sb ([])), .int .i64 0, .int .i64 0, .int .u64 0, .int .u64 0, v]⟩, ⟨25, 8, (obj b), 1, (qR h v)⟩] := hM320
                have hS322 : Mem [] w0 w318 [⟨25, 8, (obj b), 1, (qR h v)⟩] := hM321.sub (cn (cc (List.Sublist.refl _)))
                refine GoH.stepF 5 (undef) (w318) ((Instr.storeAt 9 (.pointer (some (⟨b2, 1, none⟩))) (.string (sb (h.field)))).run Try.prog w314 = .ok () w318 ∧ undef = undef) none (by kernel_rfl) (⟨hr319, rfl⟩) (.inr hS322) ?_
                refine GoH.takeV 6 (.pointer (some (⟨b2, 2, none⟩))) (.pointer (some (⟨b2, 2, none⟩))) (some 36) (fun W_ => by kernel_rfl) rfl hS322 ?_
                obtain ⟨w323, hr324, hM325⟩ := c_store (u := .string (sb (h.text))) (by kernel_rfl) hM321 0 rfl (cel_obj b2 2) (by decide) rfl rfl
                have hM326 : Mem [] w0 w323 [⟨25, 8, (obj b2), 1, [.int .i64 (h.op), .string (sb (h.field)), .string (sb (h.text)), .int .i64 0, .int .i64 0, .int .u64 0, .int .u64 0, v]⟩, ⟨25, 8, (obj b), 1, (qR h v)⟩] := hM325
                have hS327 : Mem [] w0 w323 [⟨25, 8, (obj b), 1, (qR h v)⟩] := hM326.sub (cn (cc (List.Sublist.refl _)))
                refine GoH.stepF 7 (undef) (w323) ((Instr.storeAt 9 (.pointer (some (⟨b2, 2, none⟩))) (.string (sb (h.text)))).run Try.prog w318 = .ok () w323 ∧ undef = undef) none (by kernel_rfl) (⟨hr324, rfl⟩) (.inr hS327) ?_
                refine GoH.done [1, 5, 6] [(1, pq b), (5, pq b2), (6, .int .i64 0)] (by kernel_rfl) (by kernel_rfl) ?_
                have o328 : (Instr.loadAt 3 (pq b)).run Try.prog w323 = .ok (.int .i64 (h.op)) w323 := c_load pE3 (hM326.rd 1 rfl) (cel_obj b 0) rfl
                refine GoS.run [1, 5, 6, 39] [.n, .n, .n, .n, .h (.int .i64 (h.op)), .n, .n] _ [.code (csub (cd Try.f19) [1,1,1,1,0,1,0,1,0,1,0,1]), .code (csub (cd Try.f19) [1,1,1,1,0,1,0,1,0,1,1]), .inBlock 2, .code (csub (cd Try.f19) [1,1,1,1,1])] [(1, pq b), (5, pq b2), (6, .int .i64 0), (39, .bool (h.op == 4))] w323 (by kernel_rfl) (.cons o328 .nil) ?_
                refine GoS.cond (h.op == 4) [.code (csub (cd Try.f19) [1,1,1,1,0,1,0,1,0,1,0,1,0]), .code (csub (cd Try.f19) [1,1,1,1,0,1,0,1,0,1,1]), .inBlock 2, .code (csub (cd Try.f19) [1,1,1,1,1])] [.code (csub (cd Try.f19) [1,1,1,1,0,1,0,1,0,1,0,1,1]), .code (csub (cd Try.f19) [1,1,1,1,0,1,0,1,0,1,1]), .inBlock 2, .code (csub (cd Try.f19) [1,1,1,1,1])] (by kernel_rfl) (fun h329 => ?_) (fun h329 => ?_)
                ·
                  rw [h20] at h329; cases h329
                ·
                  have h329p : ¬ (h.op = 4) := p_ne h329
                  refine GoS.run [1, 5, 6] [.n] _ [.code (csub (cd Try.f19) [1,1,1,1,0,1,0,1,0,1,1]), .inBlock 2, .code (csub (cd Try.f19) [1,1,1,1,1])] [(1, pq b), (5, pq b2), (6, .int .i64 0)] w323 (by kernel_rfl) .nil ?_
                  have o330 : (Instr.loadAt 9 (.pointer (some (⟨b, 1, none⟩)))).run Try.prog w323 = .ok (.string (sb (h.field))) w323 := c_load pE9 (hM326.rd 1 rfl) (cel_obj b 1) rfl
                  refine GoS.run [1, 5, 6, 47] [.n, .n, .n, .h (.string (sb (h.field)))] _ [.inRegion (cops (csub (cd Try.f19) [1,1,1,1,0,1,0,1,0,1,1,0])) [2,3,4,5,6,7,8], .code (csub (cd Try.f19) [1,1,1,1,0,1,0,1,0,1,1,1]), .inBlock 2, .code (csub (cd Try.f19) [1,1,1,1,1])] [(1, pq b), (5, pq b2), (6, .int .i64 0), (47, .string (sb (h.field)))] w323 (by kernel_rfl) (.cons o330 .nil) ?_
                  refine GoS.call [1, 5, 6] 22 #[.string (sb (h.field))] (some 48) [.inRegion (cops (csub (cd Try.f19) [1,1,1,1,0,1,0,1,0,1,1,0])) [3,4,5,6,7,8], .code (csub (cd Try.f19) [1,1,1,1,0,1,0,1,0,1,1,1]), .inBlock 2, .code (csub (cd Try.f19) [1,1,1,1,1])] [(1, pq b), (5, pq b2), (6, .int .i64 0)] (by kernel_rfl) (name_c (h.field) (by rw [he]; omega) w323) ?_
                  rintro _ _ ⟨rfl, rfl⟩
                  refine ⟨_, rfl, ?_⟩
                  refine GoS.run [1, 5, 6, 50] [.n, .n] _ [.inRegion (cops (csub (cd Try.f19) [1,1,1,1,0,1,0,1,0,1,1,0])) [5,6,7,8], .code (csub (cd Try.f19) [1,1,1,1,0,1,0,1,0,1,1,1]), .inBlock 2, .code (csub (cd Try.f19) [1,1,1,1,1])] [(1, pq b), (5, pq b2), (6, .int .i64 0), (50, .bool (!(nameP (h.field))))] w323 (by kernel_rfl) .nil ?_
                  refine GoS.fork 50 (!(nameP (h.field))) (by kernel_rfl) (fun h331 => ?_) (fun h331 => ?_)
                  ·
                    refine GoS.run [1, 5, 6, 54] [.n, .n, .n, .n] _ [.inRegion (cops (csub (cd Try.f19) [1,1,1,1,0,1,0,1,0,1,1,0])) [], .code (csub (cd Try.f19) [1,1,1,1,0,1,0,1,0,1,1,1]), .inBlock 2, .code (csub (cd Try.f19) [1,1,1,1,1])] [(1, pq b), (5, pq b2), (6, .int .i64 0), (54, .bool true)] w323 (by kernel_rfl) .nil ?_
                    have hM336 : Mem [] w0 w323 [] := hM326.sub (cn (cn (List.Sublist.refl _)))
                    refine GoS.run [2] [.n, .n, .n, .n, .n, .n] _ [.code (csub (cd Try.f19) [1,1,1,1,0,1,0,1,0,1,1,1,0,1]), .inBlock 2, .code (csub (cd Try.f19) [1,1,1,1,1])] [(2, .bool false)] w323 (by kernel_rfl) .nil ?_
                    refine GoS.ret (fn := Try.f19) (v := (.bool false)) Try.func19 (by kernel_rfl) ?_
                    rw [hR]
                    have hall : rightL q.l = true := by rw [← tk_all (l := q.l) (i := i) (by omega)]; exact hRt
                    have hro := right_of hall
                    rw [← he] at hro
                    exact ⟨ret_bool (by rw [hro, node_name (by omega) (by have z := h331; simpa using z)]), hM336.sub (List.nil_sublist _)⟩
                  ·
                    have o332 : (Instr.loadAt 25 (pq b)).run Try.prog w323 = .ok ((qA h v)) w323 := c_loads (ys := (qR h v)) aE25 (hM326.rd 1 rfl) (cel_obj b 0) rfl (by intro j u hj; match j, hj with | 0, hj => exact hj | 1, hj => exact hj | 2, hj => exact hj | 3, hj => exact hj | 4, hj => exact hj | 5, hj => exact hj | 6, hj => exact hj | 7, hj => exact hj | n + 8, hj => cases hj)
                    refine GoS.run [1, 5, 6, 50, 51] [.h ((qA h v))] _ [.inRegion (cops (csub (cd Try.f19) [1,1,1,1,0,1,0,1,0,1,1,0])) [6,7,8], .code (csub (cd Try.f19) [1,1,1,1,0,1,0,1,0,1,1,1]), .inBlock 2, .code (csub (cd Try.f19) [1,1,1,1,1])] [(1, pq b), (5, pq b2), (6, .int .i64 0), (50, .bool false), (51, (qA h v))] w323 (by kernel_rfl) (.cons o332 .nil) ?_
                    refine GoS.call [1, 5, 6, 50] 23 #[(qA h v)] (some 52) [.inRegion (cops (csub (cd Try.f19) [1,1,1,1,0,1,0,1,0,1,1,0])) [7,8], .code (csub (cd Try.f19) [1,1,1,1,0,1,0,1,0,1,1,1]), .inBlock 2, .code (csub (cd Try.f19) [1,1,1,1,1])] [(1, pq b), (5, pq b2), (6, .int .i64 0), (50, .bool false)] (by kernel_rfl) (words_c q h he v (hq.kept hM326.kept) (by omega)) ?_
                    rintro _ w333 ⟨rfl, m334⟩
                    refine ⟨_, rfl, ?_⟩
                    have hM335 := Mem.join hM326 m334
                    refine GoS.run [1, 5, 6, 54] [.n, .n] _ [.inRegion (cops (csub (cd Try.f19) [1,1,1,1,0,1,0,1,0,1,1,0])) [], .code (csub (cd Try.f19) [1,1,1,1,0,1,0,1,0,1,1,1]), .inBlock 2, .code (csub (cd Try.f19) [1,1,1,1,1])] [(1, pq b), (5, pq b2), (6, .int .i64 0), (54, .bool (!(wordsP h)))] w333 (by kernel_rfl) .nil ?_
                    refine GoS.run [1, 5, 6, 54] [.n] _ [.code (csub (cd Try.f19) [1,1,1,1,0,1,0,1,0,1,1,1]), .inBlock 2, .code (csub (cd Try.f19) [1,1,1,1,1])] [(1, pq b), (5, pq b2), (6, .int .i64 0), (54, .bool (!(wordsP h)))] w333 (by kernel_rfl) .nil ?_
                    refine GoS.cond (!(wordsP h)) [.code (csub (cd Try.f19) [1,1,1,1,0,1,0,1,0,1,1,1,0]), .inBlock 2, .code (csub (cd Try.f19) [1,1,1,1,1])] [.code (csub (cd Try.f19) [1,1,1,1,0,1,0,1,0,1,1,1,1]), .inBlock 2, .code (csub (cd Try.f19) [1,1,1,1,1])] (by kernel_rfl) (fun h337 => ?_) (fun h337 => ?_)
                    ·
                      have hM338 : Mem [] w0 w333 [] := hM335.sub (cn (cn (List.Sublist.refl _)))
                      refine GoS.run [2] [.n, .n, .n, .n] _ [.code (csub (cd Try.f19) [1,1,1,1,0,1,0,1,0,1,1,1,0,1]), .inBlock 2, .code (csub (cd Try.f19) [1,1,1,1,1])] [(2, .bool false)] w333 (by kernel_rfl) .nil ?_
                      refine GoS.ret (fn := Try.f19) (v := (.bool false)) Try.func19 (by kernel_rfl) ?_
                      rw [hR]
                      have hall : rightL q.l = true := by rw [← tk_all (l := q.l) (i := i) (by omega)]; exact hRt
                      have hro := right_of hall
                      rw [← he] at hro
                      exact ⟨ret_bool (by rw [hro, node_noword (by omega) (of_decide_eq_false (by have z := h337; simpa [wordsP] using z))]), hM338.sub (List.nil_sublist _)⟩
                    ·
                      refine GoS.run [1, 5, 6] [.n] _ [.inBlock 2, .code (csub (cd Try.f19) [1,1,1,1,1])] [(1, pq b), (5, pq b2), (6, .int .i64 0)] w333 (by kernel_rfl) .nil ?_
                      refine GoS.run [1, 5, 6] [.n, .n] _ [.code (csub (cd Try.f19) [1,1,1,1,1,0]), .code (csub (cd Try.f19) [1,1,1,1,1,1])] [(1, pq b), (5, pq b2), (6, .int .i64 0)] w333 (by kernel_rfl) .nil ?_
                      obtain ⟨w374, hw375⟩ : ∃ w_, (w333).drewN 1 = w_ := ⟨_, rfl⟩
                      refine GoS.held (fun W_ => Mem [] w0 W_ [⟨25, 8, (obj b2), 1, [.int .i64 (h.op), .string (sb (h.field)), .string (sb (h.text)), .int .i64 0, .int .i64 0, .int .u64 0, .int .u64 0, v]⟩, ⟨25, 8, (obj b), 1, (qR h v)⟩]) [] 31 (by kernel_rfl) (by kernel_rfl) 13 (by kernel_rfl) ?_
                      rw [hw375]
                      have hM376 : Mem [] w0 w374 [⟨25, 8, (obj b2), 1, [.int .i64 (h.op), .string (sb (h.field)), .string (sb (h.text)), .int .i64 0, .int .i64 0, .int .u64 0, .int .u64 0, v]⟩, ⟨25, 8, (obj b), 1, (qR h v)⟩] := hw375 ▸ hM335.ext (Kept.drewN _ _ 1)
                      have hS377 : Mem [] w0 w374 [⟨25, 8, (obj b2), 1, [.int .i64 (h.op), .string (sb (h.field)), .string (sb (h.text)), .int .i64 0, .int .i64 0, .int .u64 0, .int .u64 0, v]⟩, ⟨25, 8, (obj b), 1, (qR h v)⟩] := hM376.sub (cc (cc (List.Sublist.refl _)))
                      refine GoH.takeV 0 (.pointer (some (⟨b, 7, none⟩))) (.pointer (some (⟨b, 7, none⟩))) (some 81) (fun W_ => by kernel_rfl) rfl hS377 ?_
                      refine GoH.takeF 1 (v) (fun W_ => (Instr.loadAt 23 (.pointer (some (⟨b, 7, none⟩)))).run Try.prog W_ = .ok (v) W_) (some 82) (fun W_ => by kernel_rfl) (fun W_ hW_ => c_load pE23 (hW_.rd 1 rfl) (cel_obj b 7) rfl) hS377 ?_
                      refine GoH.takeF 2 (.int .i64 (((List.length L) : Nat) : Int)) (fun W_ => (Builtin.len_ #[23] 3 #[v]).run Try.prog W_ = .ok (.int .i64 (((List.length L) : Nat) : Int)) W_) (some 83) (fun W_ => by kernel_rfl) (fun W_ hW_ => f_slen sT23 (hr.kept0 hW_.kept) 3 _) hS377 ?_
                      refine GoH.takeV 3 (.int .i64 0) (.int .i64 0) (some 84) (fun W_ => by kernel_rfl) rfl hS377 ?_
                      refine GoH.takeV 4 (.bool ((((List.length L) : Nat) : Int) == 0)) (.bool ((((List.length L) : Nat) : Int) == 0)) (some 85) (fun W_ => by kernel_rfl) rfl hS377 ?_
                      rcases Bool.eq_false_or_eq_true ((((List.length L) : Nat) : Int) == 0) with h378 | h378
                      ·
                        have h378p : (((List.length L) : Nat) : Int) = 0 := eq_of_beq h378
                        refine GoH.takeV 5 (.bool ((((List.length L) : Nat) : Int) == 0)) (.bool true) (some 86) (fun W_ => by kernel_rfl) (congrArg Value.bool h378) hS377 ?_
                        refine GoH.takeF 6 ((qA h v)) (fun W_ => (Instr.loadAt 25 (pq b)).run Try.prog W_ = .ok ((qA h v)) W_) (some 87) (fun W_ => by kernel_rfl) (fun W_ hW_ => c_loads (ys := (qR h v)) aE25 (hW_.rd 1 rfl) (cel_obj b 0) rfl (by intro j u hj; match j, hj with | 0, hj => exact hj | 1, hj => exact hj | 2, hj => exact hj | 3, hj => exact hj | 4, hj => exact hj | 5, hj => exact hj | 6, hj => exact hj | 7, hj => exact hj | n + 8, hj => cases hj)) hS377 ?_
                        refine GoH.takeF 8 (.agg #[.int .i64 (h.op), .string (sb (h.field)), .string (sb (h.text)), .int .i64 0, .int .i64 0, .int .u64 0, .int .u64 0, v]) (fun W_ => (Instr.loadAt 25 (pq b2)).run Try.prog W_ = .ok (.agg #[.int .i64 (h.op), .string (sb (h.field)), .string (sb (h.text)), .int .i64 0, .int .i64 0, .int .u64 0, .int .u64 0, v]) W_) (some 89) (fun W_ => by kernel_rfl) (fun W_ hW_ => c_loads (ys := [.int .i64 (h.op), .string (sb (h.field)), .string (sb (h.text)), .int .i64 0, .int .i64 0, .int .u64 0, .int .u64 0, v]) aE25 (hW_.rd 0 rfl) (cel_obj b2 0) rfl (by intro j u hj; match j, hj with | 0, hj => exact hj | 1, hj => exact hj | 2, hj => exact hj | 3, hj => exact hj | 4, hj => exact hj | 5, hj => exact hj | 6, hj => exact hj | 7, hj => exact hj | n + 8, hj => cases hj)) hS377 ?_
                        refine GoH.callF 7 21 #[(qA h v)] (some 88) (by kernel_rfl) (flat_c (w := w374) h v) ?_
                        rintro _ w379 ⟨rfl, m380⟩
                        have hM381 := Mem.join hM376 m380
                        have hS382 : Mem [] w0 w379 [⟨25, 8, (obj b2), 1, [.int .i64 (h.op), .string (sb (h.field)), .string (sb (h.text)), .int .i64 0, .int .i64 0, .int .u64 0, .int .u64 0, v]⟩, ⟨25, 8, (obj b), 1, (qR h v)⟩] := hM381.sub (cc (cc (List.Sublist.refl _)))
                        refine ⟨(qH h), rfl, .inr hS382, ?_⟩
                        refine GoH.callF 9 21 #[.agg #[.int .i64 (h.op), .string (sb (h.field)), .string (sb (h.text)), .int .i64 0, .int .i64 0, .int .u64 0, .int .u64 0, v]] (some 90) (by kernel_rfl) (flat_c (w := w379) (Hd.mk (h.op) (h.field) (h.text) 0 0 0 0) v) ?_
                        rintro _ w383 ⟨rfl, m384⟩
                        have hM385 := Mem.join hM381 m384
                        have hS386 : Mem [] w0 w383 [⟨25, 8, (obj b2), 1, [.int .i64 (h.op), .string (sb (h.field)), .string (sb (h.text)), .int .i64 0, .int .i64 0, .int .u64 0, .int .u64 0, v]⟩, ⟨25, 8, (obj b), 1, (qR h v)⟩] := hM385.sub (cc (cc (List.Sublist.refl _)))
                        refine ⟨.agg #[.int .i64 (h.op), .string (sb (h.field)), .string (sb (h.text)), .int .i64 0, .int .i64 0, .int .u64 0, .int .u64 0], rfl, .inr hS386, ?_⟩
                        refine GoH.takeF 10 (.bool (nothP h true false false)) (fun W_ => Try.prog.eqGuardType Try.prog.depth 38 = false ∧ (binOp .eql 38 ((qH h)) (.agg #[.int .i64 (h.op), .string (sb (h.field)), .string (sb (h.text)), .int .i64 0, .int .i64 0, .int .u64 0, .int .u64 0])).run Try.prog W_ = .ok (.bool (nothP h true false false)) W_) (some 91) (fun W_ => by kernel_rfl) (fun W_ hW_ => f_ageq eT38 (xs := [.int .i64 (h.op), .string (sb (h.field)), .string (sb (h.text)), .int .i64 (h.edits), .int .i64 (h.exact), .int .u64 (h.lo), .int .u64 (h.hi)]) (ys := [.int .i64 (h.op), .string (sb (h.field)), .string (sb (h.text)), .int .i64 0, .int .i64 0, .int .u64 0, .int .u64 0]) (r := ((h.op == h.op) && (((sb (h.field)).toList == (sb (h.field)).toList) && (((sb (h.text)).toList == (sb (h.text)).toList) && ((h.edits == 0) && ((h.exact == 0) && ((h.lo == 0) && ((h.hi == 0) && true)))))))) (by kernel_rfl) (noth_t h)) hS386 ?_
                        refine GoH.takeV 11 (.bool (nothP h true false false)) (.bool (nothP h true false false)) (some 92) (fun W_ => by kernel_rfl) rfl hS386 ?_
                        refine GoH.takeV 12 (.bool (nothP h true false false)) (.bool (nothP h true false false)) (some 2) (fun W_ => by kernel_rfl) rfl hS386 ?_
                        refine GoH.done [2] [(2, .bool (nothP h true false false))] (by kernel_rfl) (by kernel_rfl) ?_
                        have hM387 : Mem [] w0 w383 [] := hM385.sub (cn (cn (List.Sublist.refl _)))
                        refine GoS.ret (fn := Try.f19) (v := (.bool (nothP h true false false))) Try.func19 (by kernel_rfl) ?_
                        rw [hR]
                        have hall : rightL q.l = true := by rw [← tk_all (l := q.l) (i := i) (by omega)]; exact hRt
                        have hro := right_of hall
                        rw [← he] at hro
                        exact ⟨ret_bool (by rw [hro, node_word (by omega) (by have z := h331; simpa using z) (of_decide_eq_true (by have z := h337; simpa [wordsP] using z)) (by omega), if_neg (by omega)]), hM387.sub (List.nil_sublist _)⟩
                      ·
                        have h378p : ¬ ((((List.length L) : Nat) : Int) = 0) := p_ne h378
                        refine GoH.takeV 5 (.bool ((((List.length L) : Nat) : Int) == 0)) (.bool false) (some 86) (fun W_ => by kernel_rfl) (congrArg Value.bool h378) hS377 ?_
                        refine GoH.skipF 6 (some 87) (by kernel_rfl) hS377 ?_
                        refine GoH.skipF 7 (some 88) (by kernel_rfl) hS377 ?_
                        refine GoH.skipF 8 (some 89) (by kernel_rfl) hS377 ?_
                        refine GoH.skipF 9 (some 90) (by kernel_rfl) hS377 ?_
                        refine GoH.skipF 10 (some 91) (by kernel_rfl) hS377 ?_
                        refine GoH.takeV 11 (.bool false) (.bool false) (some 92) (fun W_ => by kernel_rfl) rfl hS377 ?_
                        refine GoH.takeV 12 (.bool false) (.bool false) (some 2) (fun W_ => by kernel_rfl) rfl hS377 ?_
                        refine GoH.done [2] [(2, .bool false)] (by kernel_rfl) (by kernel_rfl) ?_
                        have hM388 : Mem [] w0 w374 [] := hM376.sub (cn (cn (List.Sublist.refl _)))
                        refine GoS.ret (fn := Try.f19) (v := (.bool false)) Try.func19 (by kernel_rfl) ?_
                        rw [hR]
                        have hall : rightL q.l = true := by rw [← tk_all (l := q.l) (i := i) (by omega)]; exact hRt
                        have hro := right_of hall
                        rw [← he] at hro
                        exact ⟨ret_bool (by rw [hro, node_many (by omega) (by omega)]), hM388.sub (List.nil_sublist _)⟩
              ·
                have h313p : ¬ (h.op = 5) := p_ne h313
                refine GoS.run [1, 5, 6, 24, 55] [.n, .n, .n, .n, .n] _ [.code (csub (cd Try.f19) [1,1,1,1,0,1,0,1,1,1]), .inBlock 2, .code (csub (cd Try.f19) [1,1,1,1,1])] [(1, pq b), (5, pq b2), (6, .int .i64 0), (24, .int .i64 (h.op)), (55, .bool (h.op == 6))] w7 (by kernel_rfl) .nil ?_
                refine GoS.cond (h.op == 6) [.code (csub (cd Try.f19) [1,1,1,1,0,1,0,1,1,1,0]), .inBlock 2, .code (csub (cd Try.f19) [1,1,1,1,1])] [.code (csub (cd Try.f19) [1,1,1,1,0,1,0,1,1,1,1]), .inBlock 2, .code (csub (cd Try.f19) [1,1,1,1,1])] (by kernel_rfl) (fun h339 => ?_) (fun h339 => ?_)
                ·
                  have h339p : h.op = 6 := eq_of_beq h339
                  refine GoS.run [1, 5, 6] [.n] _ [.code (csub (cd Try.f19) [1,1,1,1,0,1,0,1,1,1,0,0]), .code (csub (cd Try.f19) [1,1,1,1,0,1,0,1,1,1,0,1]), .inBlock 2, .code (csub (cd Try.f19) [1,1,1,1,1])] [(1, pq b), (5, pq b2), (6, .int .i64 0)] w7 (by kernel_rfl) .nil ?_
                  obtain ⟨w340, hw341⟩ : ∃ w_, (w7).drewN 1 = w_ := ⟨_, rfl⟩
                  refine GoS.held (fun W_ => Mem [] w0 W_ [⟨25, 8, (obj b), 1, (qR h v)⟩]) [] 22 (by kernel_rfl) (by kernel_rfl) 12 (by kernel_rfl) ?_
                  rw [hw341]
                  have hM342 : Mem [] w0 w340 [⟨25, 8, (obj b2), 1, [.int .i64 (h.op), .string (sb ([])), .string (sb ([])), .int .i64 0, .int .i64 0, .int .u64 0, .int .u64 0, v]⟩, ⟨25, 8, (obj b), 1, (qR h v)⟩] := hw341 ▸ hM10.ext (Kept.drewN _ _ 1)
                  have hS343 : Mem [] w0 w340 [⟨25, 8, (obj b), 1, (qR h v)⟩] := hM342.sub (cn (cc (List.Sublist.refl _)))
                  refine GoH.takeV 0 (.pointer (some (⟨b, 1, none⟩))) (.pointer (some (⟨b, 1, none⟩))) (some 57) (fun W_ => by kernel_rfl) rfl hS343 ?_
                  refine GoH.takeF 1 (.string (sb (h.field))) (fun W_ => (Instr.loadAt 9 (.pointer (some (⟨b, 1, none⟩)))).run Try.prog W_ = .ok (.string (sb (h.field))) W_) (some 58) (fun W_ => by kernel_rfl) (fun W_ hW_ => c_load pE9 (hW_.rd 0 rfl) (cel_obj b 1) rfl) hS343 ?_
                  refine GoH.takeV 2 (.pointer (some (⟨b, 5, none⟩))) (.pointer (some (⟨b, 5, none⟩))) (some 59) (fun W_ => by kernel_rfl) rfl hS343 ?_
                  refine GoH.takeF 3 (.int .u64 (h.lo)) (fun W_ => (Instr.loadAt 22 (.pointer (some (⟨b, 5, none⟩)))).run Try.prog W_ = .ok (.int .u64 (h.lo)) W_) (some 60) (fun W_ => by kernel_rfl) (fun W_ hW_ => c_load pE22 (hW_.rd 0 rfl) (cel_obj b 5) rfl) hS343 ?_
                  refine GoH.takeV 4 (.pointer (some (⟨b, 6, none⟩))) (.pointer (some (⟨b, 6, none⟩))) (some 61) (fun W_ => by kernel_rfl) rfl hS343 ?_
                  refine GoH.takeF 5 (.int .u64 (h.hi)) (fun W_ => (Instr.loadAt 22 (.pointer (some (⟨b, 6, none⟩)))).run Try.prog W_ = .ok (.int .u64 (h.hi)) W_) (some 62) (fun W_ => by kernel_rfl) (fun W_ hW_ => c_load pE22 (hW_.rd 0 rfl) (cel_obj b 6) rfl) hS343 ?_
                  refine GoH.takeV 6 (.pointer (some (⟨b2, 1, none⟩))) (.pointer (some (⟨b2, 1, none⟩))) (some 63) (fun W_ => by kernel_rfl) rfl hS343 ?_
                  obtain ⟨w344, hr345, hM346⟩ := c_store (u := .string (sb (h.field))) (by kernel_rfl) hM342 0 rfl (cel_obj b2 1) (by decide) rfl rfl
                  have hM347 : Mem [] w0 w344 [⟨25, 8, (obj b2), 1, [.int .i64 (h.op), .string (sb (h.field)), .string (sb ([])), .int .i64 0, .int .i64 0, .int .u64 0, .int .u64 0, v]⟩, ⟨25, 8, (obj b), 1, (qR h v)⟩] := hM346
                  have hS348 : Mem [] w0 w344 [⟨25, 8, (obj b), 1, (qR h v)⟩] := hM347.sub (cn (cc (List.Sublist.refl _)))
                  refine GoH.stepF 7 (undef) (w344) ((Instr.storeAt 9 (.pointer (some (⟨b2, 1, none⟩))) (.string (sb (h.field)))).run Try.prog w340 = .ok () w344 ∧ undef = undef) none (by kernel_rfl) (⟨hr345, rfl⟩) (.inr hS348) ?_
                  refine GoH.takeV 8 (.pointer (some (⟨b2, 5, none⟩))) (.pointer (some (⟨b2, 5, none⟩))) (some 64) (fun W_ => by kernel_rfl) rfl hS348 ?_
                  obtain ⟨w349, hr350, hM351⟩ := c_store (u := .int .u64 (h.lo)) (by kernel_rfl) hM347 0 rfl (cel_obj b2 5) (by decide) rfl rfl
                  have hM352 : Mem [] w0 w349 [⟨25, 8, (obj b2), 1, [.int .i64 (h.op), .string (sb (h.field)), .string (sb ([])), .int .i64 0, .int .i64 0, .int .u64 (h.lo), .int .u64 0, v]⟩, ⟨25, 8, (obj b), 1, (qR h v)⟩] := hM351
                  have hS353 : Mem [] w0 w349 [⟨25, 8, (obj b), 1, (qR h v)⟩] := hM352.sub (cn (cc (List.Sublist.refl _)))
                  refine GoH.stepF 9 (undef) (w349) ((Instr.storeAt 22 (.pointer (some (⟨b2, 5, none⟩))) (.int .u64 (h.lo))).run Try.prog w344 = .ok () w349 ∧ undef = undef) none (by kernel_rfl) (⟨hr350, rfl⟩) (.inr hS353) ?_
                  refine GoH.takeV 10 (.pointer (some (⟨b2, 6, none⟩))) (.pointer (some (⟨b2, 6, none⟩))) (some 65) (fun W_ => by kernel_rfl) rfl hS353 ?_
                  obtain ⟨w354, hr355, hM356⟩ := c_store (u := .int .u64 (h.hi)) (by kernel_rfl) hM352 0 rfl (cel_obj b2 6) (by decide) rfl rfl
                  have hM357 : Mem [] w0 w354 [⟨25, 8, (obj b2), 1, [.int .i64 (h.op), .string (sb (h.field)), .string (sb ([])), .int .i64 0, .int .i64 0, .int .u64 (h.lo), .int .u64 (h.hi), v]⟩, ⟨25, 8, (obj b), 1, (qR h v)⟩] := hM356
                  have hS358 : Mem [] w0 w354 [⟨25, 8, (obj b), 1, (qR h v)⟩] := hM357.sub (cn (cc (List.Sublist.refl _)))
                  refine GoH.stepF 11 (undef) (w354) ((Instr.storeAt 22 (.pointer (some (⟨b2, 6, none⟩))) (.int .u64 (h.hi))).run Try.prog w349 = .ok () w354 ∧ undef = undef) none (by kernel_rfl) (⟨hr355, rfl⟩) (.inr hS358) ?_
                  refine GoH.done [1, 5, 6] [(1, pq b), (5, pq b2), (6, .int .i64 0)] (by kernel_rfl) (by kernel_rfl) ?_
                  have o359 : (Instr.loadAt 9 (.pointer (some (⟨b, 1, none⟩)))).run Try.prog w354 = .ok (.string (sb (h.field))) w354 := c_load pE9 (hM357.rd 1 rfl) (cel_obj b 1) rfl
                  refine GoS.run [1, 5, 6, 67] [.n, .n, .n, .h (.string (sb (h.field)))] _ [.inRegion (cops (csub (cd Try.f19) [1,1,1,1,0,1,0,1,1,1,0,1,0])) [2,3], .code (csub (cd Try.f19) [1,1,1,1,0,1,0,1,1,1,0,1,1]), .inBlock 2, .code (csub (cd Try.f19) [1,1,1,1,1])] [(1, pq b), (5, pq b2), (6, .int .i64 0), (67, .string (sb (h.field)))] w354 (by kernel_rfl) (.cons o359 .nil) ?_
                  refine GoS.call [1, 5, 6] 22 #[.string (sb (h.field))] (some 68) [.inRegion (cops (csub (cd Try.f19) [1,1,1,1,0,1,0,1,1,1,0,1,0])) [3], .code (csub (cd Try.f19) [1,1,1,1,0,1,0,1,1,1,0,1,1]), .inBlock 2, .code (csub (cd Try.f19) [1,1,1,1,1])] [(1, pq b), (5, pq b2), (6, .int .i64 0)] (by kernel_rfl) (name_c (h.field) (by rw [he]; omega) w354) ?_
                  rintro _ _ ⟨rfl, rfl⟩
                  refine ⟨_, rfl, ?_⟩
                  refine GoS.run [1, 5, 6, 69] [.n, .n] _ [.code (csub (cd Try.f19) [1,1,1,1,0,1,0,1,1,1,0,1,1]), .inBlock 2, .code (csub (cd Try.f19) [1,1,1,1,1])] [(1, pq b), (5, pq b2), (6, .int .i64 0), (69, .bool (!(nameP (h.field))))] w354 (by kernel_rfl) .nil ?_
                  refine GoS.cond (!(nameP (h.field))) [.code (csub (cd Try.f19) [1,1,1,1,0,1,0,1,1,1,0,1,1,0]), .inBlock 2, .code (csub (cd Try.f19) [1,1,1,1,1])] [.code (csub (cd Try.f19) [1,1,1,1,0,1,0,1,1,1,0,1,1,1]), .inBlock 2, .code (csub (cd Try.f19) [1,1,1,1,1])] (by kernel_rfl) (fun h360 => ?_) (fun h360 => ?_)
                  ·
                    have hM361 : Mem [] w0 w354 [] := hM357.sub (cn (cn (List.Sublist.refl _)))
                    refine GoS.run [2] [.n, .n, .n, .n] _ [.code (csub (cd Try.f19) [1,1,1,1,0,1,0,1,1,1,0,1,1,0,1]), .inBlock 2, .code (csub (cd Try.f19) [1,1,1,1,1])] [(2, .bool false)] w354 (by kernel_rfl) .nil ?_
                    refine GoS.ret (fn := Try.f19) (v := (.bool false)) Try.func19 (by kernel_rfl) ?_
                    rw [hR]
                    have hall : rightL q.l = true := by rw [← tk_all (l := q.l) (i := i) (by omega)]; exact hRt
                    have hro := right_of hall
                    rw [← he] at hro
                    exact ⟨ret_bool (by rw [hro, node_name (by omega) (by have z := h360; simpa using z)]), hM361.sub (List.nil_sublist _)⟩
                  ·
                    refine GoS.run [1, 5, 6] [.n] _ [.inBlock 2, .code (csub (cd Try.f19) [1,1,1,1,1])] [(1, pq b), (5, pq b2), (6, .int .i64 0)] w354 (by kernel_rfl) .nil ?_
                    refine GoS.run [1, 5, 6] [.n, .n] _ [.code (csub (cd Try.f19) [1,1,1,1,1,0]), .code (csub (cd Try.f19) [1,1,1,1,1,1])] [(1, pq b), (5, pq b2), (6, .int .i64 0)] w354 (by kernel_rfl) .nil ?_
                    obtain ⟨w389, hw390⟩ : ∃ w_, (w354).drewN 1 = w_ := ⟨_, rfl⟩
                    refine GoS.held (fun W_ => Mem [] w0 W_ [⟨25, 8, (obj b2), 1, [.int .i64 (h.op), .string (sb (h.field)), .string (sb ([])), .int .i64 0, .int .i64 0, .int .u64 (h.lo), .int .u64 (h.hi), v]⟩, ⟨25, 8, (obj b), 1, (qR h v)⟩]) [] 31 (by kernel_rfl) (by kernel_rfl) 13 (by kernel_rfl) ?_
                    rw [hw390]
                    have hM391 : Mem [] w0 w389 [⟨25, 8, (obj b2), 1, [.int .i64 (h.op), .string (sb (h.field)), .string (sb ([])), .int .i64 0, .int .i64 0, .int .u64 (h.lo), .int .u64 (h.hi), v]⟩, ⟨25, 8, (obj b), 1, (qR h v)⟩] := hw390 ▸ hM357.ext (Kept.drewN _ _ 1)
                    have hS392 : Mem [] w0 w389 [⟨25, 8, (obj b2), 1, [.int .i64 (h.op), .string (sb (h.field)), .string (sb ([])), .int .i64 0, .int .i64 0, .int .u64 (h.lo), .int .u64 (h.hi), v]⟩, ⟨25, 8, (obj b), 1, (qR h v)⟩] := hM391.sub (cc (cc (List.Sublist.refl _)))
                    refine GoH.takeV 0 (.pointer (some (⟨b, 7, none⟩))) (.pointer (some (⟨b, 7, none⟩))) (some 81) (fun W_ => by kernel_rfl) rfl hS392 ?_
                    refine GoH.takeF 1 (v) (fun W_ => (Instr.loadAt 23 (.pointer (some (⟨b, 7, none⟩)))).run Try.prog W_ = .ok (v) W_) (some 82) (fun W_ => by kernel_rfl) (fun W_ hW_ => c_load pE23 (hW_.rd 1 rfl) (cel_obj b 7) rfl) hS392 ?_
                    refine GoH.takeF 2 (.int .i64 (((List.length L) : Nat) : Int)) (fun W_ => (Builtin.len_ #[23] 3 #[v]).run Try.prog W_ = .ok (.int .i64 (((List.length L) : Nat) : Int)) W_) (some 83) (fun W_ => by kernel_rfl) (fun W_ hW_ => f_slen sT23 (hr.kept0 hW_.kept) 3 _) hS392 ?_
                    refine GoH.takeV 3 (.int .i64 0) (.int .i64 0) (some 84) (fun W_ => by kernel_rfl) rfl hS392 ?_
                    refine GoH.takeV 4 (.bool ((((List.length L) : Nat) : Int) == 0)) (.bool ((((List.length L) : Nat) : Int) == 0)) (some 85) (fun W_ => by kernel_rfl) rfl hS392 ?_
                    rcases Bool.eq_false_or_eq_true ((((List.length L) : Nat) : Int) == 0) with h393 | h393
                    ·
                      have h393p : (((List.length L) : Nat) : Int) = 0 := eq_of_beq h393
                      refine GoH.takeV 5 (.bool ((((List.length L) : Nat) : Int) == 0)) (.bool true) (some 86) (fun W_ => by kernel_rfl) (congrArg Value.bool h393) hS392 ?_
                      refine GoH.takeF 6 ((qA h v)) (fun W_ => (Instr.loadAt 25 (pq b)).run Try.prog W_ = .ok ((qA h v)) W_) (some 87) (fun W_ => by kernel_rfl) (fun W_ hW_ => c_loads (ys := (qR h v)) aE25 (hW_.rd 1 rfl) (cel_obj b 0) rfl (by intro j u hj; match j, hj with | 0, hj => exact hj | 1, hj => exact hj | 2, hj => exact hj | 3, hj => exact hj | 4, hj => exact hj | 5, hj => exact hj | 6, hj => exact hj | 7, hj => exact hj | n + 8, hj => cases hj)) hS392 ?_
                      refine GoH.takeF 8 (.agg #[.int .i64 (h.op), .string (sb (h.field)), .string (sb ([])), .int .i64 0, .int .i64 0, .int .u64 (h.lo), .int .u64 (h.hi), v]) (fun W_ => (Instr.loadAt 25 (pq b2)).run Try.prog W_ = .ok (.agg #[.int .i64 (h.op), .string (sb (h.field)), .string (sb ([])), .int .i64 0, .int .i64 0, .int .u64 (h.lo), .int .u64 (h.hi), v]) W_) (some 89) (fun W_ => by kernel_rfl) (fun W_ hW_ => c_loads (ys := [.int .i64 (h.op), .string (sb (h.field)), .string (sb ([])), .int .i64 0, .int .i64 0, .int .u64 (h.lo), .int .u64 (h.hi), v]) aE25 (hW_.rd 0 rfl) (cel_obj b2 0) rfl (by intro j u hj; match j, hj with | 0, hj => exact hj | 1, hj => exact hj | 2, hj => exact hj | 3, hj => exact hj | 4, hj => exact hj | 5, hj => exact hj | 6, hj => exact hj | 7, hj => exact hj | n + 8, hj => cases hj)) hS392 ?_
                      refine GoH.callF 7 21 #[(qA h v)] (some 88) (by kernel_rfl) (flat_c (w := w389) h v) ?_
                      rintro _ w394 ⟨rfl, m395⟩
                      have hM396 := Mem.join hM391 m395
                      have hS397 : Mem [] w0 w394 [⟨25, 8, (obj b2), 1, [.int .i64 (h.op), .string (sb (h.field)), .string (sb ([])), .int .i64 0, .int .i64 0, .int .u64 (h.lo), .int .u64 (h.hi), v]⟩, ⟨25, 8, (obj b), 1, (qR h v)⟩] := hM396.sub (cc (cc (List.Sublist.refl _)))
                      refine ⟨(qH h), rfl, .inr hS397, ?_⟩
                      refine GoH.callF 9 21 #[.agg #[.int .i64 (h.op), .string (sb (h.field)), .string (sb ([])), .int .i64 0, .int .i64 0, .int .u64 (h.lo), .int .u64 (h.hi), v]] (some 90) (by kernel_rfl) (flat_c (w := w394) (Hd.mk (h.op) (h.field) ([]) 0 0 (h.lo) (h.hi)) v) ?_
                      rintro _ w398 ⟨rfl, m399⟩
                      have hM400 := Mem.join hM396 m399
                      have hS401 : Mem [] w0 w398 [⟨25, 8, (obj b2), 1, [.int .i64 (h.op), .string (sb (h.field)), .string (sb ([])), .int .i64 0, .int .i64 0, .int .u64 (h.lo), .int .u64 (h.hi), v]⟩, ⟨25, 8, (obj b), 1, (qR h v)⟩] := hM400.sub (cc (cc (List.Sublist.refl _)))
                      refine ⟨.agg #[.int .i64 (h.op), .string (sb (h.field)), .string (sb ([])), .int .i64 0, .int .i64 0, .int .u64 (h.lo), .int .u64 (h.hi)], rfl, .inr hS401, ?_⟩
                      refine GoH.takeF 10 (.bool (nothP h false false true)) (fun W_ => Try.prog.eqGuardType Try.prog.depth 38 = false ∧ (binOp .eql 38 ((qH h)) (.agg #[.int .i64 (h.op), .string (sb (h.field)), .string (sb ([])), .int .i64 0, .int .i64 0, .int .u64 (h.lo), .int .u64 (h.hi)])).run Try.prog W_ = .ok (.bool (nothP h false false true)) W_) (some 91) (fun W_ => by kernel_rfl) (fun W_ hW_ => f_ageq eT38 (xs := [.int .i64 (h.op), .string (sb (h.field)), .string (sb (h.text)), .int .i64 (h.edits), .int .i64 (h.exact), .int .u64 (h.lo), .int .u64 (h.hi)]) (ys := [.int .i64 (h.op), .string (sb (h.field)), .string (sb ([])), .int .i64 0, .int .i64 0, .int .u64 (h.lo), .int .u64 (h.hi)]) (r := ((h.op == h.op) && (((sb (h.field)).toList == (sb (h.field)).toList) && (((sb (h.text)).toList == (sb ([])).toList) && ((h.edits == 0) && ((h.exact == 0) && ((h.lo == h.lo) && ((h.hi == h.hi) && true)))))))) (by kernel_rfl) (noth_r h)) hS401 ?_
                      refine GoH.takeV 11 (.bool (nothP h false false true)) (.bool (nothP h false false true)) (some 92) (fun W_ => by kernel_rfl) rfl hS401 ?_
                      refine GoH.takeV 12 (.bool (nothP h false false true)) (.bool (nothP h false false true)) (some 2) (fun W_ => by kernel_rfl) rfl hS401 ?_
                      refine GoH.done [2] [(2, .bool (nothP h false false true))] (by kernel_rfl) (by kernel_rfl) ?_
                      have hM402 : Mem [] w0 w398 [] := hM400.sub (cn (cn (List.Sublist.refl _)))
                      refine GoS.ret (fn := Try.f19) (v := (.bool (nothP h false false true))) Try.func19 (by kernel_rfl) ?_
                      rw [hR]
                      have hall : rightL q.l = true := by rw [← tk_all (l := q.l) (i := i) (by omega)]; exact hRt
                      have hro := right_of hall
                      rw [← he] at hro
                      exact ⟨ret_bool (by rw [hro, node_range (by omega) (by have z := h360; simpa using z) (by omega)]), hM402.sub (List.nil_sublist _)⟩
                    ·
                      have h393p : ¬ ((((List.length L) : Nat) : Int) = 0) := p_ne h393
                      refine GoH.takeV 5 (.bool ((((List.length L) : Nat) : Int) == 0)) (.bool false) (some 86) (fun W_ => by kernel_rfl) (congrArg Value.bool h393) hS392 ?_
                      refine GoH.skipF 6 (some 87) (by kernel_rfl) hS392 ?_
                      refine GoH.skipF 7 (some 88) (by kernel_rfl) hS392 ?_
                      refine GoH.skipF 8 (some 89) (by kernel_rfl) hS392 ?_
                      refine GoH.skipF 9 (some 90) (by kernel_rfl) hS392 ?_
                      refine GoH.skipF 10 (some 91) (by kernel_rfl) hS392 ?_
                      refine GoH.takeV 11 (.bool false) (.bool false) (some 92) (fun W_ => by kernel_rfl) rfl hS392 ?_
                      refine GoH.takeV 12 (.bool false) (.bool false) (some 2) (fun W_ => by kernel_rfl) rfl hS392 ?_
                      refine GoH.done [2] [(2, .bool false)] (by kernel_rfl) (by kernel_rfl) ?_
                      have hM403 : Mem [] w0 w389 [] := hM391.sub (cn (cn (List.Sublist.refl _)))
                      refine GoS.ret (fn := Try.f19) (v := (.bool false)) Try.func19 (by kernel_rfl) ?_
                      rw [hR]
                      have hall : rightL q.l = true := by rw [← tk_all (l := q.l) (i := i) (by omega)]; exact hRt
                      have hro := right_of hall
                      rw [← he] at hro
                      exact ⟨ret_bool (by rw [hro, node_many (by omega) (by omega)]), hM403.sub (List.nil_sublist _)⟩
                ·
                  have h339p : ¬ (h.op = 6) := p_ne h339
                  refine GoS.run [1, 5, 6, 24, 70] [.n, .n, .n, .n, .n, .n] _ [.code (csub (cd Try.f19) [1,1,1,1,0,1,0,1,1,1,1,0,1]), .code (csub (cd Try.f19) [1,1,1,1,0,1,0,1,1,1,1,1]), .inBlock 2, .code (csub (cd Try.f19) [1,1,1,1,1])] [(1, pq b), (5, pq b2), (6, .int .i64 0), (24, .int .i64 (h.op)), (70, .bool (h.op == 7))] w7 (by kernel_rfl) .nil ?_
                  refine GoS.cond (h.op == 7) [.code (csub (cd Try.f19) [1,1,1,1,0,1,0,1,1,1,1,0,1,0]), .code (csub (cd Try.f19) [1,1,1,1,0,1,0,1,1,1,1,1]), .inBlock 2, .code (csub (cd Try.f19) [1,1,1,1,1])] [.code (csub (cd Try.f19) [1,1,1,1,0,1,0,1,1,1,1,0,1,1]), .code (csub (cd Try.f19) [1,1,1,1,0,1,0,1,1,1,1,1]), .inBlock 2, .code (csub (cd Try.f19) [1,1,1,1,1])] (by kernel_rfl) (fun h362 => ?_) (fun h362 => ?_)
                  ·
                    have h362p : h.op = 7 := eq_of_beq h362
                    refine GoS.run [1, 5, 6, 24, 70] [.n] _ [.code (csub (cd Try.f19) [1,1,1,1,0,1,0,1,1,1,1,1]), .inBlock 2, .code (csub (cd Try.f19) [1,1,1,1,1])] [(1, pq b), (5, pq b2), (6, .int .i64 0), (24, .int .i64 (h.op)), (70, .bool (h.op == 7))] w7 (by kernel_rfl) .nil ?_
                    refine GoS.cond (h.op == 7) [.code (csub (cd Try.f19) [1,1,1,1,0,1,0,1,1,1,1,1,0]), .inBlock 2, .code (csub (cd Try.f19) [1,1,1,1,1])] [.code (csub (cd Try.f19) [1,1,1,1,0,1,0,1,1,1,1,1,1]), .inBlock 2, .code (csub (cd Try.f19) [1,1,1,1,1])] (by kernel_rfl) (fun h363 => ?_) (fun h363 => ?_)
                    ·
                      have h363p : h.op = 7 := eq_of_beq h363
                      have o364 : (Instr.loadAt 23 (.pointer (some (⟨b, 7, none⟩)))).run Try.prog w7 = .ok (v) w7 := c_load pE23 (hM10.rd 1 rfl) (cel_obj b 7) rfl
                      have o365 : (Builtin.len_ #[23] 3 #[v]).run Try.prog w7 = .ok (.int .i64 (((List.length L) : Nat) : Int)) w7 := f_slen sT23 (hr.kept0 hM10.kept) 3 _
                      have o366 : (Builtin.max_ #[3, 3] 3 #[.int .i64 2, .int .i64 (((List.length L) : Nat) : Int)]).run Try.prog w7 = .ok (.int .i64 (((max 2 (List.length L)) : Nat) : Int)) w7 := f_max (by split <;> omega)
                      refine GoS.run [1, 5, 6] [.n, .n, .h (v), .h (.int .i64 (((List.length L) : Nat) : Int)), .h (.int .i64 (((max 2 (List.length L)) : Nat) : Int)), .n, .n] _ [.inBlock 2, .code (csub (cd Try.f19) [1,1,1,1,1])] [(1, pq b), (5, pq b2), (6, .int .i64 (((max 2 (List.length L)) : Nat) : Int))] w7 (by kernel_rfl) (.cons o364 (.cons o365 (.cons o366 .nil))) ?_
                      refine GoS.run [1, 5, 6] [.n, .n] _ [.code (csub (cd Try.f19) [1,1,1,1,1,0]), .code (csub (cd Try.f19) [1,1,1,1,1,1])] [(1, pq b), (5, pq b2), (6, .int .i64 (((max 2 (List.length L)) : Nat) : Int))] w7 (by kernel_rfl) .nil ?_
                      obtain ⟨w404, hw405⟩ : ∃ w_, (w7).drewN 1 = w_ := ⟨_, rfl⟩
                      refine GoS.held (fun W_ => Mem [] w0 W_ [⟨25, 8, (obj b2), 1, [.int .i64 (h.op), .string (sb ([])), .string (sb ([])), .int .i64 0, .int .i64 0, .int .u64 0, .int .u64 0, v]⟩, ⟨25, 8, (obj b), 1, (qR h v)⟩]) [] 31 (by kernel_rfl) (by kernel_rfl) 13 (by kernel_rfl) ?_
                      rw [hw405]
                      have hM406 : Mem [] w0 w404 [⟨25, 8, (obj b2), 1, [.int .i64 (h.op), .string (sb ([])), .string (sb ([])), .int .i64 0, .int .i64 0, .int .u64 0, .int .u64 0, v]⟩, ⟨25, 8, (obj b), 1, (qR h v)⟩] := hw405 ▸ hM10.ext (Kept.drewN _ _ 1)
                      have hS407 : Mem [] w0 w404 [⟨25, 8, (obj b2), 1, [.int .i64 (h.op), .string (sb ([])), .string (sb ([])), .int .i64 0, .int .i64 0, .int .u64 0, .int .u64 0, v]⟩, ⟨25, 8, (obj b), 1, (qR h v)⟩] := hM406.sub (cc (cc (List.Sublist.refl _)))
                      refine GoH.takeV 0 (.pointer (some (⟨b, 7, none⟩))) (.pointer (some (⟨b, 7, none⟩))) (some 81) (fun W_ => by kernel_rfl) rfl hS407 ?_
                      refine GoH.takeF 1 (v) (fun W_ => (Instr.loadAt 23 (.pointer (some (⟨b, 7, none⟩)))).run Try.prog W_ = .ok (v) W_) (some 82) (fun W_ => by kernel_rfl) (fun W_ hW_ => c_load pE23 (hW_.rd 1 rfl) (cel_obj b 7) rfl) hS407 ?_
                      refine GoH.takeF 2 (.int .i64 (((List.length L) : Nat) : Int)) (fun W_ => (Builtin.len_ #[23] 3 #[v]).run Try.prog W_ = .ok (.int .i64 (((List.length L) : Nat) : Int)) W_) (some 83) (fun W_ => by kernel_rfl) (fun W_ hW_ => f_slen sT23 (hr.kept0 hW_.kept) 3 _) hS407 ?_
                      refine GoH.takeV 3 (.int .i64 (((max 2 (List.length L)) : Nat) : Int)) (.int .i64 (((max 2 (List.length L)) : Nat) : Int)) (some 84) (fun W_ => by kernel_rfl) rfl hS407 ?_
                      refine GoH.takeV 4 (.bool ((((List.length L) : Nat) : Int) == (((max 2 (List.length L)) : Nat) : Int))) (.bool ((((List.length L) : Nat) : Int) == (((max 2 (List.length L)) : Nat) : Int))) (some 85) (fun W_ => by kernel_rfl) rfl hS407 ?_
                      rcases Bool.eq_false_or_eq_true ((((List.length L) : Nat) : Int) == (((max 2 (List.length L)) : Nat) : Int)) with h408 | h408
                      ·
                        have h408p : (((List.length L) : Nat) : Int) = (((max 2 (List.length L)) : Nat) : Int) := eq_of_beq h408
                        refine GoH.takeV 5 (.bool ((((List.length L) : Nat) : Int) == (((max 2 (List.length L)) : Nat) : Int))) (.bool true) (some 86) (fun W_ => by kernel_rfl) (congrArg Value.bool h408) hS407 ?_
                        refine GoH.takeF 6 ((qA h v)) (fun W_ => (Instr.loadAt 25 (pq b)).run Try.prog W_ = .ok ((qA h v)) W_) (some 87) (fun W_ => by kernel_rfl) (fun W_ hW_ => c_loads (ys := (qR h v)) aE25 (hW_.rd 1 rfl) (cel_obj b 0) rfl (by intro j u hj; match j, hj with | 0, hj => exact hj | 1, hj => exact hj | 2, hj => exact hj | 3, hj => exact hj | 4, hj => exact hj | 5, hj => exact hj | 6, hj => exact hj | 7, hj => exact hj | n + 8, hj => cases hj)) hS407 ?_
                        refine GoH.takeF 8 (.agg #[.int .i64 (h.op), .string (sb ([])), .string (sb ([])), .int .i64 0, .int .i64 0, .int .u64 0, .int .u64 0, v]) (fun W_ => (Instr.loadAt 25 (pq b2)).run Try.prog W_ = .ok (.agg #[.int .i64 (h.op), .string (sb ([])), .string (sb ([])), .int .i64 0, .int .i64 0, .int .u64 0, .int .u64 0, v]) W_) (some 89) (fun W_ => by kernel_rfl) (fun W_ hW_ => c_loads (ys := [.int .i64 (h.op), .string (sb ([])), .string (sb ([])), .int .i64 0, .int .i64 0, .int .u64 0, .int .u64 0, v]) aE25 (hW_.rd 0 rfl) (cel_obj b2 0) rfl (by intro j u hj; match j, hj with | 0, hj => exact hj | 1, hj => exact hj | 2, hj => exact hj | 3, hj => exact hj | 4, hj => exact hj | 5, hj => exact hj | 6, hj => exact hj | 7, hj => exact hj | n + 8, hj => cases hj)) hS407 ?_
                        refine GoH.callF 7 21 #[(qA h v)] (some 88) (by kernel_rfl) (flat_c (w := w404) h v) ?_
                        rintro _ w409 ⟨rfl, m410⟩
                        have hM411 := Mem.join hM406 m410
                        have hS412 : Mem [] w0 w409 [⟨25, 8, (obj b2), 1, [.int .i64 (h.op), .string (sb ([])), .string (sb ([])), .int .i64 0, .int .i64 0, .int .u64 0, .int .u64 0, v]⟩, ⟨25, 8, (obj b), 1, (qR h v)⟩] := hM411.sub (cc (cc (List.Sublist.refl _)))
                        refine ⟨(qH h), rfl, .inr hS412, ?_⟩
                        refine GoH.callF 9 21 #[.agg #[.int .i64 (h.op), .string (sb ([])), .string (sb ([])), .int .i64 0, .int .i64 0, .int .u64 0, .int .u64 0, v]] (some 90) (by kernel_rfl) (flat_c (w := w409) (Hd.mk (h.op) ([]) ([]) 0 0 0 0) v) ?_
                        rintro _ w413 ⟨rfl, m414⟩
                        have hM415 := Mem.join hM411 m414
                        have hS416 : Mem [] w0 w413 [⟨25, 8, (obj b2), 1, [.int .i64 (h.op), .string (sb ([])), .string (sb ([])), .int .i64 0, .int .i64 0, .int .u64 0, .int .u64 0, v]⟩, ⟨25, 8, (obj b), 1, (qR h v)⟩] := hM415.sub (cc (cc (List.Sublist.refl _)))
                        refine ⟨.agg #[.int .i64 (h.op), .string (sb ([])), .string (sb ([])), .int .i64 0, .int .i64 0, .int .u64 0, .int .u64 0], rfl, .inr hS416, ?_⟩
                        refine GoH.takeF 10 (.bool (decide (h.field = []) && nothP h false false false)) (fun W_ => Try.prog.eqGuardType Try.prog.depth 38 = false ∧ (binOp .eql 38 ((qH h)) (.agg #[.int .i64 (h.op), .string (sb ([])), .string (sb ([])), .int .i64 0, .int .i64 0, .int .u64 0, .int .u64 0])).run Try.prog W_ = .ok (.bool (decide (h.field = []) && nothP h false false false)) W_) (some 91) (fun W_ => by kernel_rfl) (fun W_ hW_ => f_ageq eT38 (xs := [.int .i64 (h.op), .string (sb (h.field)), .string (sb (h.text)), .int .i64 (h.edits), .int .i64 (h.exact), .int .u64 (h.lo), .int .u64 (h.hi)]) (ys := [.int .i64 (h.op), .string (sb ([])), .string (sb ([])), .int .i64 0, .int .i64 0, .int .u64 0, .int .u64 0]) (r := ((h.op == h.op) && (((sb (h.field)).toList == (sb ([])).toList) && (((sb (h.text)).toList == (sb ([])).toList) && ((h.edits == 0) && ((h.exact == 0) && ((h.lo == 0) && ((h.hi == 0) && true)))))))) (by kernel_rfl) (noth_b h)) hS416 ?_
                        refine GoH.takeV 11 (.bool (decide (h.field = []) && nothP h false false false)) (.bool (decide (h.field = []) && nothP h false false false)) (some 92) (fun W_ => by kernel_rfl) rfl hS416 ?_
                        refine GoH.takeV 12 (.bool (decide (h.field = []) && nothP h false false false)) (.bool (decide (h.field = []) && nothP h false false false)) (some 2) (fun W_ => by kernel_rfl) rfl hS416 ?_
                        refine GoH.done [2] [(2, .bool (decide (h.field = []) && nothP h false false false))] (by kernel_rfl) (by kernel_rfl) ?_
                        have hM417 : Mem [] w0 w413 [] := hM415.sub (cn (cn (List.Sublist.refl _)))
                        refine GoS.ret (fn := Try.f19) (v := (.bool (decide (h.field = []) && nothP h false false false))) Try.func19 (by kernel_rfl) ?_
                        rw [hR]
                        have hall : rightL q.l = true := by rw [← tk_all (l := q.l) (i := i) (by omega)]; exact hRt
                        have hro := right_of hall
                        rw [← he] at hro
                        have hmx : L.length = max 2 L.length := Int.ofNat.inj h408p
                        exact ⟨ret_bool (by first | (rw [hro, node_join (by omega), (show decide (2 ≤ q.l.length) = true from decide_eq_true (by omega))]; rfl) | (rw [hro, node_not (by omega), (show decide (q.l.length = 1) = true from decide_eq_true (by omega))]; rfl) | (rw [hro, node_all (by omega), (show decide (q.l.length = 0) = true from decide_eq_true (by omega))]; rfl)), hM417.sub (List.nil_sublist _)⟩
                      ·
                        have h408p : ¬ ((((List.length L) : Nat) : Int) = (((max 2 (List.length L)) : Nat) : Int)) := p_ne h408
                        refine GoH.takeV 5 (.bool ((((List.length L) : Nat) : Int) == (((max 2 (List.length L)) : Nat) : Int))) (.bool false) (some 86) (fun W_ => by kernel_rfl) (congrArg Value.bool h408) hS407 ?_
                        refine GoH.skipF 6 (some 87) (by kernel_rfl) hS407 ?_
                        refine GoH.skipF 7 (some 88) (by kernel_rfl) hS407 ?_
                        refine GoH.skipF 8 (some 89) (by kernel_rfl) hS407 ?_
                        refine GoH.skipF 9 (some 90) (by kernel_rfl) hS407 ?_
                        refine GoH.skipF 10 (some 91) (by kernel_rfl) hS407 ?_
                        refine GoH.takeV 11 (.bool false) (.bool false) (some 92) (fun W_ => by kernel_rfl) rfl hS407 ?_
                        refine GoH.takeV 12 (.bool false) (.bool false) (some 2) (fun W_ => by kernel_rfl) rfl hS407 ?_
                        refine GoH.done [2] [(2, .bool false)] (by kernel_rfl) (by kernel_rfl) ?_
                        have hM418 : Mem [] w0 w404 [] := hM406.sub (cn (cn (List.Sublist.refl _)))
                        refine GoS.ret (fn := Try.f19) (v := (.bool false)) Try.func19 (by kernel_rfl) ?_
                        rw [hR]
                        have hall : rightL q.l = true := by rw [← tk_all (l := q.l) (i := i) (by omega)]; exact hRt
                        have hro := right_of hall
                        rw [← he] at hro
                        have hmx : ¬ L.length = max 2 L.length := fun z => h408p (congrArg Int.ofNat z)
                        exact ⟨ret_bool (by first | (rw [hro, node_join (by omega), (show decide (2 ≤ q.l.length) = false from decide_eq_false (by omega))]; rfl) | (rw [hro, node_not (by omega), (show decide (q.l.length = 1) = false from decide_eq_false (by omega))]; rfl) | (rw [hro, node_all (by omega), (show decide (q.l.length = 0) = false from decide_eq_false (by omega))]; rfl)), hM418.sub (List.nil_sublist _)⟩
                    ·
                      rw [h362] at h363; cases h363
                  ·
                    have h362p : ¬ (h.op = 7) := p_ne h362
                    refine GoS.run [1, 5, 6, 24, 70] [.n, .n, .n, .n] _ [.code (csub (cd Try.f19) [1,1,1,1,0,1,0,1,1,1,1,1]), .inBlock 2, .code (csub (cd Try.f19) [1,1,1,1,1])] [(1, pq b), (5, pq b2), (6, .int .i64 0), (24, .int .i64 (h.op)), (70, .bool (h.op == 8))] w7 (by kernel_rfl) .nil ?_
                    refine GoS.cond (h.op == 8) [.code (csub (cd Try.f19) [1,1,1,1,0,1,0,1,1,1,1,1,0]), .inBlock 2, .code (csub (cd Try.f19) [1,1,1,1,1])] [.code (csub (cd Try.f19) [1,1,1,1,0,1,0,1,1,1,1,1,1]), .inBlock 2, .code (csub (cd Try.f19) [1,1,1,1,1])] (by kernel_rfl) (fun h367 => ?_) (fun h367 => ?_)
                    ·
                      have h367p : h.op = 8 := eq_of_beq h367
                      have o368 : (Instr.loadAt 23 (.pointer (some (⟨b, 7, none⟩)))).run Try.prog w7 = .ok (v) w7 := c_load pE23 (hM10.rd 1 rfl) (cel_obj b 7) rfl
                      have o369 : (Builtin.len_ #[23] 3 #[v]).run Try.prog w7 = .ok (.int .i64 (((List.length L) : Nat) : Int)) w7 := f_slen sT23 (hr.kept0 hM10.kept) 3 _
                      have o370 : (Builtin.max_ #[3, 3] 3 #[.int .i64 2, .int .i64 (((List.length L) : Nat) : Int)]).run Try.prog w7 = .ok (.int .i64 (((max 2 (List.length L)) : Nat) : Int)) w7 := f_max (by split <;> omega)
                      refine GoS.run [1, 5, 6] [.n, .n, .h (v), .h (.int .i64 (((List.length L) : Nat) : Int)), .h (.int .i64 (((max 2 (List.length L)) : Nat) : Int)), .n, .n] _ [.inBlock 2, .code (csub (cd Try.f19) [1,1,1,1,1])] [(1, pq b), (5, pq b2), (6, .int .i64 (((max 2 (List.length L)) : Nat) : Int))] w7 (by kernel_rfl) (.cons o368 (.cons o369 (.cons o370 .nil))) ?_
                      refine GoS.run [1, 5, 6] [.n, .n] _ [.code (csub (cd Try.f19) [1,1,1,1,1,0]), .code (csub (cd Try.f19) [1,1,1,1,1,1])] [(1, pq b), (5, pq b2), (6, .int .i64 (((max 2 (List.length L)) : Nat) : Int))] w7 (by kernel_rfl) .nil ?_
                      obtain ⟨w419, hw420⟩ : ∃ w_, (w7).drewN 1 = w_ := ⟨_, rfl⟩
                      refine GoS.held (fun W_ => Mem [] w0 W_ [⟨25, 8, (obj b2), 1, [.int .i64 (h.op), .string (sb ([])), .string (sb ([])), .int .i64 0, .int .i64 0, .int .u64 0, .int .u64 0, v]⟩, ⟨25, 8, (obj b), 1, (qR h v)⟩]) [] 31 (by kernel_rfl) (by kernel_rfl) 13 (by kernel_rfl) ?_
                      rw [hw420]
                      have hM421 : Mem [] w0 w419 [⟨25, 8, (obj b2), 1, [.int .i64 (h.op), .string (sb ([])), .string (sb ([])), .int .i64 0, .int .i64 0, .int .u64 0, .int .u64 0, v]⟩, ⟨25, 8, (obj b), 1, (qR h v)⟩] := hw420 ▸ hM10.ext (Kept.drewN _ _ 1)
                      have hS422 : Mem [] w0 w419 [⟨25, 8, (obj b2), 1, [.int .i64 (h.op), .string (sb ([])), .string (sb ([])), .int .i64 0, .int .i64 0, .int .u64 0, .int .u64 0, v]⟩, ⟨25, 8, (obj b), 1, (qR h v)⟩] := hM421.sub (cc (cc (List.Sublist.refl _)))
                      refine GoH.takeV 0 (.pointer (some (⟨b, 7, none⟩))) (.pointer (some (⟨b, 7, none⟩))) (some 81) (fun W_ => by kernel_rfl) rfl hS422 ?_
                      refine GoH.takeF 1 (v) (fun W_ => (Instr.loadAt 23 (.pointer (some (⟨b, 7, none⟩)))).run Try.prog W_ = .ok (v) W_) (some 82) (fun W_ => by kernel_rfl) (fun W_ hW_ => c_load pE23 (hW_.rd 1 rfl) (cel_obj b 7) rfl) hS422 ?_
                      refine GoH.takeF 2 (.int .i64 (((List.length L) : Nat) : Int)) (fun W_ => (Builtin.len_ #[23] 3 #[v]).run Try.prog W_ = .ok (.int .i64 (((List.length L) : Nat) : Int)) W_) (some 83) (fun W_ => by kernel_rfl) (fun W_ hW_ => f_slen sT23 (hr.kept0 hW_.kept) 3 _) hS422 ?_
                      refine GoH.takeV 3 (.int .i64 (((max 2 (List.length L)) : Nat) : Int)) (.int .i64 (((max 2 (List.length L)) : Nat) : Int)) (some 84) (fun W_ => by kernel_rfl) rfl hS422 ?_
                      refine GoH.takeV 4 (.bool ((((List.length L) : Nat) : Int) == (((max 2 (List.length L)) : Nat) : Int))) (.bool ((((List.length L) : Nat) : Int) == (((max 2 (List.length L)) : Nat) : Int))) (some 85) (fun W_ => by kernel_rfl) rfl hS422 ?_
                      rcases Bool.eq_false_or_eq_true ((((List.length L) : Nat) : Int) == (((max 2 (List.length L)) : Nat) : Int)) with h423 | h423
                      ·
                        have h423p : (((List.length L) : Nat) : Int) = (((max 2 (List.length L)) : Nat) : Int) := eq_of_beq h423
                        refine GoH.takeV 5 (.bool ((((List.length L) : Nat) : Int) == (((max 2 (List.length L)) : Nat) : Int))) (.bool true) (some 86) (fun W_ => by kernel_rfl) (congrArg Value.bool h423) hS422 ?_
                        refine GoH.takeF 6 ((qA h v)) (fun W_ => (Instr.loadAt 25 (pq b)).run Try.prog W_ = .ok ((qA h v)) W_) (some 87) (fun W_ => by kernel_rfl) (fun W_ hW_ => c_loads (ys := (qR h v)) aE25 (hW_.rd 1 rfl) (cel_obj b 0) rfl (by intro j u hj; match j, hj with | 0, hj => exact hj | 1, hj => exact hj | 2, hj => exact hj | 3, hj => exact hj | 4, hj => exact hj | 5, hj => exact hj | 6, hj => exact hj | 7, hj => exact hj | n + 8, hj => cases hj)) hS422 ?_
                        refine GoH.takeF 8 (.agg #[.int .i64 (h.op), .string (sb ([])), .string (sb ([])), .int .i64 0, .int .i64 0, .int .u64 0, .int .u64 0, v]) (fun W_ => (Instr.loadAt 25 (pq b2)).run Try.prog W_ = .ok (.agg #[.int .i64 (h.op), .string (sb ([])), .string (sb ([])), .int .i64 0, .int .i64 0, .int .u64 0, .int .u64 0, v]) W_) (some 89) (fun W_ => by kernel_rfl) (fun W_ hW_ => c_loads (ys := [.int .i64 (h.op), .string (sb ([])), .string (sb ([])), .int .i64 0, .int .i64 0, .int .u64 0, .int .u64 0, v]) aE25 (hW_.rd 0 rfl) (cel_obj b2 0) rfl (by intro j u hj; match j, hj with | 0, hj => exact hj | 1, hj => exact hj | 2, hj => exact hj | 3, hj => exact hj | 4, hj => exact hj | 5, hj => exact hj | 6, hj => exact hj | 7, hj => exact hj | n + 8, hj => cases hj)) hS422 ?_
                        refine GoH.callF 7 21 #[(qA h v)] (some 88) (by kernel_rfl) (flat_c (w := w419) h v) ?_
                        rintro _ w424 ⟨rfl, m425⟩
                        have hM426 := Mem.join hM421 m425
                        have hS427 : Mem [] w0 w424 [⟨25, 8, (obj b2), 1, [.int .i64 (h.op), .string (sb ([])), .string (sb ([])), .int .i64 0, .int .i64 0, .int .u64 0, .int .u64 0, v]⟩, ⟨25, 8, (obj b), 1, (qR h v)⟩] := hM426.sub (cc (cc (List.Sublist.refl _)))
                        refine ⟨(qH h), rfl, .inr hS427, ?_⟩
                        refine GoH.callF 9 21 #[.agg #[.int .i64 (h.op), .string (sb ([])), .string (sb ([])), .int .i64 0, .int .i64 0, .int .u64 0, .int .u64 0, v]] (some 90) (by kernel_rfl) (flat_c (w := w424) (Hd.mk (h.op) ([]) ([]) 0 0 0 0) v) ?_
                        rintro _ w428 ⟨rfl, m429⟩
                        have hM430 := Mem.join hM426 m429
                        have hS431 : Mem [] w0 w428 [⟨25, 8, (obj b2), 1, [.int .i64 (h.op), .string (sb ([])), .string (sb ([])), .int .i64 0, .int .i64 0, .int .u64 0, .int .u64 0, v]⟩, ⟨25, 8, (obj b), 1, (qR h v)⟩] := hM430.sub (cc (cc (List.Sublist.refl _)))
                        refine ⟨.agg #[.int .i64 (h.op), .string (sb ([])), .string (sb ([])), .int .i64 0, .int .i64 0, .int .u64 0, .int .u64 0], rfl, .inr hS431, ?_⟩
                        refine GoH.takeF 10 (.bool (decide (h.field = []) && nothP h false false false)) (fun W_ => Try.prog.eqGuardType Try.prog.depth 38 = false ∧ (binOp .eql 38 ((qH h)) (.agg #[.int .i64 (h.op), .string (sb ([])), .string (sb ([])), .int .i64 0, .int .i64 0, .int .u64 0, .int .u64 0])).run Try.prog W_ = .ok (.bool (decide (h.field = []) && nothP h false false false)) W_) (some 91) (fun W_ => by kernel_rfl) (fun W_ hW_ => f_ageq eT38 (xs := [.int .i64 (h.op), .string (sb (h.field)), .string (sb (h.text)), .int .i64 (h.edits), .int .i64 (h.exact), .int .u64 (h.lo), .int .u64 (h.hi)]) (ys := [.int .i64 (h.op), .string (sb ([])), .string (sb ([])), .int .i64 0, .int .i64 0, .int .u64 0, .int .u64 0]) (r := ((h.op == h.op) && (((sb (h.field)).toList == (sb ([])).toList) && (((sb (h.text)).toList == (sb ([])).toList) && ((h.edits == 0) && ((h.exact == 0) && ((h.lo == 0) && ((h.hi == 0) && true)))))))) (by kernel_rfl) (noth_b h)) hS431 ?_
                        refine GoH.takeV 11 (.bool (decide (h.field = []) && nothP h false false false)) (.bool (decide (h.field = []) && nothP h false false false)) (some 92) (fun W_ => by kernel_rfl) rfl hS431 ?_
                        refine GoH.takeV 12 (.bool (decide (h.field = []) && nothP h false false false)) (.bool (decide (h.field = []) && nothP h false false false)) (some 2) (fun W_ => by kernel_rfl) rfl hS431 ?_
                        refine GoH.done [2] [(2, .bool (decide (h.field = []) && nothP h false false false))] (by kernel_rfl) (by kernel_rfl) ?_
                        have hM432 : Mem [] w0 w428 [] := hM430.sub (cn (cn (List.Sublist.refl _)))
                        refine GoS.ret (fn := Try.f19) (v := (.bool (decide (h.field = []) && nothP h false false false))) Try.func19 (by kernel_rfl) ?_
                        rw [hR]
                        have hall : rightL q.l = true := by rw [← tk_all (l := q.l) (i := i) (by omega)]; exact hRt
                        have hro := right_of hall
                        rw [← he] at hro
                        have hmx : L.length = max 2 L.length := Int.ofNat.inj h423p
                        exact ⟨ret_bool (by first | (rw [hro, node_join (by omega), (show decide (2 ≤ q.l.length) = true from decide_eq_true (by omega))]; rfl) | (rw [hro, node_not (by omega), (show decide (q.l.length = 1) = true from decide_eq_true (by omega))]; rfl) | (rw [hro, node_all (by omega), (show decide (q.l.length = 0) = true from decide_eq_true (by omega))]; rfl)), hM432.sub (List.nil_sublist _)⟩
                      ·
                        have h423p : ¬ ((((List.length L) : Nat) : Int) = (((max 2 (List.length L)) : Nat) : Int)) := p_ne h423
                        refine GoH.takeV 5 (.bool ((((List.length L) : Nat) : Int) == (((max 2 (List.length L)) : Nat) : Int))) (.bool false) (some 86) (fun W_ => by kernel_rfl) (congrArg Value.bool h423) hS422 ?_
                        refine GoH.skipF 6 (some 87) (by kernel_rfl) hS422 ?_
                        refine GoH.skipF 7 (some 88) (by kernel_rfl) hS422 ?_
                        refine GoH.skipF 8 (some 89) (by kernel_rfl) hS422 ?_
                        refine GoH.skipF 9 (some 90) (by kernel_rfl) hS422 ?_
                        refine GoH.skipF 10 (some 91) (by kernel_rfl) hS422 ?_
                        refine GoH.takeV 11 (.bool false) (.bool false) (some 92) (fun W_ => by kernel_rfl) rfl hS422 ?_
                        refine GoH.takeV 12 (.bool false) (.bool false) (some 2) (fun W_ => by kernel_rfl) rfl hS422 ?_
                        refine GoH.done [2] [(2, .bool false)] (by kernel_rfl) (by kernel_rfl) ?_
                        have hM433 : Mem [] w0 w419 [] := hM421.sub (cn (cn (List.Sublist.refl _)))
                        refine GoS.ret (fn := Try.f19) (v := (.bool false)) Try.func19 (by kernel_rfl) ?_
                        rw [hR]
                        have hall : rightL q.l = true := by rw [← tk_all (l := q.l) (i := i) (by omega)]; exact hRt
                        have hro := right_of hall
                        rw [← he] at hro
                        have hmx : ¬ L.length = max 2 L.length := fun z => h423p (congrArg Int.ofNat z)
                        exact ⟨ret_bool (by first | (rw [hro, node_join (by omega), (show decide (2 ≤ q.l.length) = false from decide_eq_false (by omega))]; rfl) | (rw [hro, node_not (by omega), (show decide (q.l.length = 1) = false from decide_eq_false (by omega))]; rfl) | (rw [hro, node_all (by omega), (show decide (q.l.length = 0) = false from decide_eq_false (by omega))]; rfl)), hM433.sub (List.nil_sublist _)⟩
                    ·
                      have h367p : ¬ (h.op = 8) := p_ne h367
                      refine GoS.run [1, 5, 6, 24, 77] [.n, .n, .n, .n, .n] _ [.code (csub (cd Try.f19) [1,1,1,1,0,1,0,1,1,1,1,1,1,1]), .inBlock 2, .code (csub (cd Try.f19) [1,1,1,1,1])] [(1, pq b), (5, pq b2), (6, .int .i64 0), (24, .int .i64 (h.op)), (77, .bool (h.op == 9))] w7 (by kernel_rfl) .nil ?_
                      refine GoS.cond (h.op == 9) [.code (csub (cd Try.f19) [1,1,1,1,0,1,0,1,1,1,1,1,1,1,0]), .inBlock 2, .code (csub (cd Try.f19) [1,1,1,1,1])] [.code (csub (cd Try.f19) [1,1,1,1,0,1,0,1,1,1,1,1,1,1,1]), .inBlock 2, .code (csub (cd Try.f19) [1,1,1,1,1])] (by kernel_rfl) (fun h371 => ?_) (fun h371 => ?_)
                      ·
                        have h371p : h.op = 9 := eq_of_beq h371
                        refine GoS.run [1, 5, 6] [.n, .n, .n] _ [.inBlock 2, .code (csub (cd Try.f19) [1,1,1,1,1])] [(1, pq b), (5, pq b2), (6, .int .i64 1)] w7 (by kernel_rfl) .nil ?_
                        refine GoS.run [1, 5, 6] [.n, .n] _ [.code (csub (cd Try.f19) [1,1,1,1,1,0]), .code (csub (cd Try.f19) [1,1,1,1,1,1])] [(1, pq b), (5, pq b2), (6, .int .i64 1)] w7 (by kernel_rfl) .nil ?_
                        obtain ⟨w434, hw435⟩ : ∃ w_, (w7).drewN 1 = w_ := ⟨_, rfl⟩
                        refine GoS.held (fun W_ => Mem [] w0 W_ [⟨25, 8, (obj b2), 1, [.int .i64 (h.op), .string (sb ([])), .string (sb ([])), .int .i64 0, .int .i64 0, .int .u64 0, .int .u64 0, v]⟩, ⟨25, 8, (obj b), 1, (qR h v)⟩]) [] 31 (by kernel_rfl) (by kernel_rfl) 13 (by kernel_rfl) ?_
                        rw [hw435]
                        have hM436 : Mem [] w0 w434 [⟨25, 8, (obj b2), 1, [.int .i64 (h.op), .string (sb ([])), .string (sb ([])), .int .i64 0, .int .i64 0, .int .u64 0, .int .u64 0, v]⟩, ⟨25, 8, (obj b), 1, (qR h v)⟩] := hw435 ▸ hM10.ext (Kept.drewN _ _ 1)
                        have hS437 : Mem [] w0 w434 [⟨25, 8, (obj b2), 1, [.int .i64 (h.op), .string (sb ([])), .string (sb ([])), .int .i64 0, .int .i64 0, .int .u64 0, .int .u64 0, v]⟩, ⟨25, 8, (obj b), 1, (qR h v)⟩] := hM436.sub (cc (cc (List.Sublist.refl _)))
                        refine GoH.takeV 0 (.pointer (some (⟨b, 7, none⟩))) (.pointer (some (⟨b, 7, none⟩))) (some 81) (fun W_ => by kernel_rfl) rfl hS437 ?_
                        refine GoH.takeF 1 (v) (fun W_ => (Instr.loadAt 23 (.pointer (some (⟨b, 7, none⟩)))).run Try.prog W_ = .ok (v) W_) (some 82) (fun W_ => by kernel_rfl) (fun W_ hW_ => c_load pE23 (hW_.rd 1 rfl) (cel_obj b 7) rfl) hS437 ?_
                        refine GoH.takeF 2 (.int .i64 (((List.length L) : Nat) : Int)) (fun W_ => (Builtin.len_ #[23] 3 #[v]).run Try.prog W_ = .ok (.int .i64 (((List.length L) : Nat) : Int)) W_) (some 83) (fun W_ => by kernel_rfl) (fun W_ hW_ => f_slen sT23 (hr.kept0 hW_.kept) 3 _) hS437 ?_
                        refine GoH.takeV 3 (.int .i64 1) (.int .i64 1) (some 84) (fun W_ => by kernel_rfl) rfl hS437 ?_
                        refine GoH.takeV 4 (.bool ((((List.length L) : Nat) : Int) == 1)) (.bool ((((List.length L) : Nat) : Int) == 1)) (some 85) (fun W_ => by kernel_rfl) rfl hS437 ?_
                        rcases Bool.eq_false_or_eq_true ((((List.length L) : Nat) : Int) == 1) with h438 | h438
                        ·
                          have h438p : (((List.length L) : Nat) : Int) = 1 := eq_of_beq h438
                          refine GoH.takeV 5 (.bool ((((List.length L) : Nat) : Int) == 1)) (.bool true) (some 86) (fun W_ => by kernel_rfl) (congrArg Value.bool h438) hS437 ?_
                          refine GoH.takeF 6 ((qA h v)) (fun W_ => (Instr.loadAt 25 (pq b)).run Try.prog W_ = .ok ((qA h v)) W_) (some 87) (fun W_ => by kernel_rfl) (fun W_ hW_ => c_loads (ys := (qR h v)) aE25 (hW_.rd 1 rfl) (cel_obj b 0) rfl (by intro j u hj; match j, hj with | 0, hj => exact hj | 1, hj => exact hj | 2, hj => exact hj | 3, hj => exact hj | 4, hj => exact hj | 5, hj => exact hj | 6, hj => exact hj | 7, hj => exact hj | n + 8, hj => cases hj)) hS437 ?_
                          refine GoH.takeF 8 (.agg #[.int .i64 (h.op), .string (sb ([])), .string (sb ([])), .int .i64 0, .int .i64 0, .int .u64 0, .int .u64 0, v]) (fun W_ => (Instr.loadAt 25 (pq b2)).run Try.prog W_ = .ok (.agg #[.int .i64 (h.op), .string (sb ([])), .string (sb ([])), .int .i64 0, .int .i64 0, .int .u64 0, .int .u64 0, v]) W_) (some 89) (fun W_ => by kernel_rfl) (fun W_ hW_ => c_loads (ys := [.int .i64 (h.op), .string (sb ([])), .string (sb ([])), .int .i64 0, .int .i64 0, .int .u64 0, .int .u64 0, v]) aE25 (hW_.rd 0 rfl) (cel_obj b2 0) rfl (by intro j u hj; match j, hj with | 0, hj => exact hj | 1, hj => exact hj | 2, hj => exact hj | 3, hj => exact hj | 4, hj => exact hj | 5, hj => exact hj | 6, hj => exact hj | 7, hj => exact hj | n + 8, hj => cases hj)) hS437 ?_
                          refine GoH.callF 7 21 #[(qA h v)] (some 88) (by kernel_rfl) (flat_c (w := w434) h v) ?_
                          rintro _ w439 ⟨rfl, m440⟩
                          have hM441 := Mem.join hM436 m440
                          have hS442 : Mem [] w0 w439 [⟨25, 8, (obj b2), 1, [.int .i64 (h.op), .string (sb ([])), .string (sb ([])), .int .i64 0, .int .i64 0, .int .u64 0, .int .u64 0, v]⟩, ⟨25, 8, (obj b), 1, (qR h v)⟩] := hM441.sub (cc (cc (List.Sublist.refl _)))
                          refine ⟨(qH h), rfl, .inr hS442, ?_⟩
                          refine GoH.callF 9 21 #[.agg #[.int .i64 (h.op), .string (sb ([])), .string (sb ([])), .int .i64 0, .int .i64 0, .int .u64 0, .int .u64 0, v]] (some 90) (by kernel_rfl) (flat_c (w := w439) (Hd.mk (h.op) ([]) ([]) 0 0 0 0) v) ?_
                          rintro _ w443 ⟨rfl, m444⟩
                          have hM445 := Mem.join hM441 m444
                          have hS446 : Mem [] w0 w443 [⟨25, 8, (obj b2), 1, [.int .i64 (h.op), .string (sb ([])), .string (sb ([])), .int .i64 0, .int .i64 0, .int .u64 0, .int .u64 0, v]⟩, ⟨25, 8, (obj b), 1, (qR h v)⟩] := hM445.sub (cc (cc (List.Sublist.refl _)))
                          refine ⟨.agg #[.int .i64 (h.op), .string (sb ([])), .string (sb ([])), .int .i64 0, .int .i64 0, .int .u64 0, .int .u64 0], rfl, .inr hS446, ?_⟩
                          refine GoH.takeF 10 (.bool (decide (h.field = []) && nothP h false false false)) (fun W_ => Try.prog.eqGuardType Try.prog.depth 38 = false ∧ (binOp .eql 38 ((qH h)) (.agg #[.int .i64 (h.op), .string (sb ([])), .string (sb ([])), .int .i64 0, .int .i64 0, .int .u64 0, .int .u64 0])).run Try.prog W_ = .ok (.bool (decide (h.field = []) && nothP h false false false)) W_) (some 91) (fun W_ => by kernel_rfl) (fun W_ hW_ => f_ageq eT38 (xs := [.int .i64 (h.op), .string (sb (h.field)), .string (sb (h.text)), .int .i64 (h.edits), .int .i64 (h.exact), .int .u64 (h.lo), .int .u64 (h.hi)]) (ys := [.int .i64 (h.op), .string (sb ([])), .string (sb ([])), .int .i64 0, .int .i64 0, .int .u64 0, .int .u64 0]) (r := ((h.op == h.op) && (((sb (h.field)).toList == (sb ([])).toList) && (((sb (h.text)).toList == (sb ([])).toList) && ((h.edits == 0) && ((h.exact == 0) && ((h.lo == 0) && ((h.hi == 0) && true)))))))) (by kernel_rfl) (noth_b h)) hS446 ?_
                          refine GoH.takeV 11 (.bool (decide (h.field = []) && nothP h false false false)) (.bool (decide (h.field = []) && nothP h false false false)) (some 92) (fun W_ => by kernel_rfl) rfl hS446 ?_
                          refine GoH.takeV 12 (.bool (decide (h.field = []) && nothP h false false false)) (.bool (decide (h.field = []) && nothP h false false false)) (some 2) (fun W_ => by kernel_rfl) rfl hS446 ?_
                          refine GoH.done [2] [(2, .bool (decide (h.field = []) && nothP h false false false))] (by kernel_rfl) (by kernel_rfl) ?_
                          have hM447 : Mem [] w0 w443 [] := hM445.sub (cn (cn (List.Sublist.refl _)))
                          refine GoS.ret (fn := Try.f19) (v := (.bool (decide (h.field = []) && nothP h false false false))) Try.func19 (by kernel_rfl) ?_
                          rw [hR]
                          have hall : rightL q.l = true := by rw [← tk_all (l := q.l) (i := i) (by omega)]; exact hRt
                          have hro := right_of hall
                          rw [← he] at hro
                          exact ⟨ret_bool (by first | (rw [hro, node_join (by omega), (show decide (2 ≤ q.l.length) = true from decide_eq_true (by omega))]; rfl) | (rw [hro, node_not (by omega), (show decide (q.l.length = 1) = true from decide_eq_true (by omega))]; rfl) | (rw [hro, node_all (by omega), (show decide (q.l.length = 0) = true from decide_eq_true (by omega))]; rfl)), hM447.sub (List.nil_sublist _)⟩
                        ·
                          have h438p : ¬ ((((List.length L) : Nat) : Int) = 1) := p_ne h438
                          refine GoH.takeV 5 (.bool ((((List.length L) : Nat) : Int) == 1)) (.bool false) (some 86) (fun W_ => by kernel_rfl) (congrArg Value.bool h438) hS437 ?_
                          refine GoH.skipF 6 (some 87) (by kernel_rfl) hS437 ?_
                          refine GoH.skipF 7 (some 88) (by kernel_rfl) hS437 ?_
                          refine GoH.skipF 8 (some 89) (by kernel_rfl) hS437 ?_
                          refine GoH.skipF 9 (some 90) (by kernel_rfl) hS437 ?_
                          refine GoH.skipF 10 (some 91) (by kernel_rfl) hS437 ?_
                          refine GoH.takeV 11 (.bool false) (.bool false) (some 92) (fun W_ => by kernel_rfl) rfl hS437 ?_
                          refine GoH.takeV 12 (.bool false) (.bool false) (some 2) (fun W_ => by kernel_rfl) rfl hS437 ?_
                          refine GoH.done [2] [(2, .bool false)] (by kernel_rfl) (by kernel_rfl) ?_
                          have hM448 : Mem [] w0 w434 [] := hM436.sub (cn (cn (List.Sublist.refl _)))
                          refine GoS.ret (fn := Try.f19) (v := (.bool false)) Try.func19 (by kernel_rfl) ?_
                          rw [hR]
                          have hall : rightL q.l = true := by rw [← tk_all (l := q.l) (i := i) (by omega)]; exact hRt
                          have hro := right_of hall
                          rw [← he] at hro
                          exact ⟨ret_bool (by first | (rw [hro, node_join (by omega), (show decide (2 ≤ q.l.length) = false from decide_eq_false (by omega))]; rfl) | (rw [hro, node_not (by omega), (show decide (q.l.length = 1) = false from decide_eq_false (by omega))]; rfl) | (rw [hro, node_all (by omega), (show decide (q.l.length = 0) = false from decide_eq_false (by omega))]; rfl)), hM448.sub (List.nil_sublist _)⟩
                      ·
                        have h371p : ¬ (h.op = 9) := p_ne h371
                        refine GoS.run [1, 5, 6, 79] [.n, .n, .n, .n, .n] _ [.code (csub (cd Try.f19) [1,1,1,1,0,1,0,1,1,1,1,1,1,1,1,1]), .inBlock 2, .code (csub (cd Try.f19) [1,1,1,1,1])] [(1, pq b), (5, pq b2), (6, .int .i64 0), (79, .bool (h.op == 10))] w7 (by kernel_rfl) .nil ?_
                        refine GoS.cond (h.op == 10) [.code (csub (cd Try.f19) [1,1,1,1,0,1,0,1,1,1,1,1,1,1,1,1,0]), .inBlock 2, .code (csub (cd Try.f19) [1,1,1,1,1])] [.code (csub (cd Try.f19) [1,1,1,1,0,1,0,1,1,1,1,1,1,1,1,1,1]), .inBlock 2, .code (csub (cd Try.f19) [1,1,1,1,1])] (by kernel_rfl) (fun h372 => ?_) (fun h372 => ?_)
                        ·
                          have h372p : h.op = 10 := eq_of_beq h372
                          refine GoS.run [1, 5, 6] [.n] _ [.inBlock 2, .code (csub (cd Try.f19) [1,1,1,1,1])] [(1, pq b), (5, pq b2), (6, .int .i64 0)] w7 (by kernel_rfl) .nil ?_
                          refine GoS.run [1, 5, 6] [.n, .n] _ [.code (csub (cd Try.f19) [1,1,1,1,1,0]), .code (csub (cd Try.f19) [1,1,1,1,1,1])] [(1, pq b), (5, pq b2), (6, .int .i64 0)] w7 (by kernel_rfl) .nil ?_
                          obtain ⟨w449, hw450⟩ : ∃ w_, (w7).drewN 1 = w_ := ⟨_, rfl⟩
                          refine GoS.held (fun W_ => Mem [] w0 W_ [⟨25, 8, (obj b2), 1, [.int .i64 (h.op), .string (sb ([])), .string (sb ([])), .int .i64 0, .int .i64 0, .int .u64 0, .int .u64 0, v]⟩, ⟨25, 8, (obj b), 1, (qR h v)⟩]) [] 31 (by kernel_rfl) (by kernel_rfl) 13 (by kernel_rfl) ?_
                          rw [hw450]
                          have hM451 : Mem [] w0 w449 [⟨25, 8, (obj b2), 1, [.int .i64 (h.op), .string (sb ([])), .string (sb ([])), .int .i64 0, .int .i64 0, .int .u64 0, .int .u64 0, v]⟩, ⟨25, 8, (obj b), 1, (qR h v)⟩] := hw450 ▸ hM10.ext (Kept.drewN _ _ 1)
                          have hS452 : Mem [] w0 w449 [⟨25, 8, (obj b2), 1, [.int .i64 (h.op), .string (sb ([])), .string (sb ([])), .int .i64 0, .int .i64 0, .int .u64 0, .int .u64 0, v]⟩, ⟨25, 8, (obj b), 1, (qR h v)⟩] := hM451.sub (cc (cc (List.Sublist.refl _)))
                          refine GoH.takeV 0 (.pointer (some (⟨b, 7, none⟩))) (.pointer (some (⟨b, 7, none⟩))) (some 81) (fun W_ => by kernel_rfl) rfl hS452 ?_
                          refine GoH.takeF 1 (v) (fun W_ => (Instr.loadAt 23 (.pointer (some (⟨b, 7, none⟩)))).run Try.prog W_ = .ok (v) W_) (some 82) (fun W_ => by kernel_rfl) (fun W_ hW_ => c_load pE23 (hW_.rd 1 rfl) (cel_obj b 7) rfl) hS452 ?_
                          refine GoH.takeF 2 (.int .i64 (((List.length L) : Nat) : Int)) (fun W_ => (Builtin.len_ #[23] 3 #[v]).run Try.prog W_ = .ok (.int .i64 (((List.length L) : Nat) : Int)) W_) (some 83) (fun W_ => by kernel_rfl) (fun W_ hW_ => f_slen sT23 (hr.kept0 hW_.kept) 3 _) hS452 ?_
                          refine GoH.takeV 3 (.int .i64 0) (.int .i64 0) (some 84) (fun W_ => by kernel_rfl) rfl hS452 ?_
                          refine GoH.takeV 4 (.bool ((((List.length L) : Nat) : Int) == 0)) (.bool ((((List.length L) : Nat) : Int) == 0)) (some 85) (fun W_ => by kernel_rfl) rfl hS452 ?_
                          rcases Bool.eq_false_or_eq_true ((((List.length L) : Nat) : Int) == 0) with h453 | h453
                          ·
                            have h453p : (((List.length L) : Nat) : Int) = 0 := eq_of_beq h453
                            refine GoH.takeV 5 (.bool ((((List.length L) : Nat) : Int) == 0)) (.bool true) (some 86) (fun W_ => by kernel_rfl) (congrArg Value.bool h453) hS452 ?_
                            refine GoH.takeF 6 ((qA h v)) (fun W_ => (Instr.loadAt 25 (pq b)).run Try.prog W_ = .ok ((qA h v)) W_) (some 87) (fun W_ => by kernel_rfl) (fun W_ hW_ => c_loads (ys := (qR h v)) aE25 (hW_.rd 1 rfl) (cel_obj b 0) rfl (by intro j u hj; match j, hj with | 0, hj => exact hj | 1, hj => exact hj | 2, hj => exact hj | 3, hj => exact hj | 4, hj => exact hj | 5, hj => exact hj | 6, hj => exact hj | 7, hj => exact hj | n + 8, hj => cases hj)) hS452 ?_
                            refine GoH.takeF 8 (.agg #[.int .i64 (h.op), .string (sb ([])), .string (sb ([])), .int .i64 0, .int .i64 0, .int .u64 0, .int .u64 0, v]) (fun W_ => (Instr.loadAt 25 (pq b2)).run Try.prog W_ = .ok (.agg #[.int .i64 (h.op), .string (sb ([])), .string (sb ([])), .int .i64 0, .int .i64 0, .int .u64 0, .int .u64 0, v]) W_) (some 89) (fun W_ => by kernel_rfl) (fun W_ hW_ => c_loads (ys := [.int .i64 (h.op), .string (sb ([])), .string (sb ([])), .int .i64 0, .int .i64 0, .int .u64 0, .int .u64 0, v]) aE25 (hW_.rd 0 rfl) (cel_obj b2 0) rfl (by intro j u hj; match j, hj with | 0, hj => exact hj | 1, hj => exact hj | 2, hj => exact hj | 3, hj => exact hj | 4, hj => exact hj | 5, hj => exact hj | 6, hj => exact hj | 7, hj => exact hj | n + 8, hj => cases hj)) hS452 ?_
                            refine GoH.callF 7 21 #[(qA h v)] (some 88) (by kernel_rfl) (flat_c (w := w449) h v) ?_
                            rintro _ w454 ⟨rfl, m455⟩
                            have hM456 := Mem.join hM451 m455
                            have hS457 : Mem [] w0 w454 [⟨25, 8, (obj b2), 1, [.int .i64 (h.op), .string (sb ([])), .string (sb ([])), .int .i64 0, .int .i64 0, .int .u64 0, .int .u64 0, v]⟩, ⟨25, 8, (obj b), 1, (qR h v)⟩] := hM456.sub (cc (cc (List.Sublist.refl _)))
                            refine ⟨(qH h), rfl, .inr hS457, ?_⟩
                            refine GoH.callF 9 21 #[.agg #[.int .i64 (h.op), .string (sb ([])), .string (sb ([])), .int .i64 0, .int .i64 0, .int .u64 0, .int .u64 0, v]] (some 90) (by kernel_rfl) (flat_c (w := w454) (Hd.mk (h.op) ([]) ([]) 0 0 0 0) v) ?_
                            rintro _ w458 ⟨rfl, m459⟩
                            have hM460 := Mem.join hM456 m459
                            have hS461 : Mem [] w0 w458 [⟨25, 8, (obj b2), 1, [.int .i64 (h.op), .string (sb ([])), .string (sb ([])), .int .i64 0, .int .i64 0, .int .u64 0, .int .u64 0, v]⟩, ⟨25, 8, (obj b), 1, (qR h v)⟩] := hM460.sub (cc (cc (List.Sublist.refl _)))
                            refine ⟨.agg #[.int .i64 (h.op), .string (sb ([])), .string (sb ([])), .int .i64 0, .int .i64 0, .int .u64 0, .int .u64 0], rfl, .inr hS461, ?_⟩
                            refine GoH.takeF 10 (.bool (decide (h.field = []) && nothP h false false false)) (fun W_ => Try.prog.eqGuardType Try.prog.depth 38 = false ∧ (binOp .eql 38 ((qH h)) (.agg #[.int .i64 (h.op), .string (sb ([])), .string (sb ([])), .int .i64 0, .int .i64 0, .int .u64 0, .int .u64 0])).run Try.prog W_ = .ok (.bool (decide (h.field = []) && nothP h false false false)) W_) (some 91) (fun W_ => by kernel_rfl) (fun W_ hW_ => f_ageq eT38 (xs := [.int .i64 (h.op), .string (sb (h.field)), .string (sb (h.text)), .int .i64 (h.edits), .int .i64 (h.exact), .int .u64 (h.lo), .int .u64 (h.hi)]) (ys := [.int .i64 (h.op), .string (sb ([])), .string (sb ([])), .int .i64 0, .int .i64 0, .int .u64 0, .int .u64 0]) (r := ((h.op == h.op) && (((sb (h.field)).toList == (sb ([])).toList) && (((sb (h.text)).toList == (sb ([])).toList) && ((h.edits == 0) && ((h.exact == 0) && ((h.lo == 0) && ((h.hi == 0) && true)))))))) (by kernel_rfl) (noth_b h)) hS461 ?_
                            refine GoH.takeV 11 (.bool (decide (h.field = []) && nothP h false false false)) (.bool (decide (h.field = []) && nothP h false false false)) (some 92) (fun W_ => by kernel_rfl) rfl hS461 ?_
                            refine GoH.takeV 12 (.bool (decide (h.field = []) && nothP h false false false)) (.bool (decide (h.field = []) && nothP h false false false)) (some 2) (fun W_ => by kernel_rfl) rfl hS461 ?_
                            refine GoH.done [2] [(2, .bool (decide (h.field = []) && nothP h false false false))] (by kernel_rfl) (by kernel_rfl) ?_
                            have hM462 : Mem [] w0 w458 [] := hM460.sub (cn (cn (List.Sublist.refl _)))
                            refine GoS.ret (fn := Try.f19) (v := (.bool (decide (h.field = []) && nothP h false false false))) Try.func19 (by kernel_rfl) ?_
                            rw [hR]
                            have hall : rightL q.l = true := by rw [← tk_all (l := q.l) (i := i) (by omega)]; exact hRt
                            have hro := right_of hall
                            rw [← he] at hro
                            exact ⟨ret_bool (by first | (rw [hro, node_join (by omega), (show decide (2 ≤ q.l.length) = true from decide_eq_true (by omega))]; rfl) | (rw [hro, node_not (by omega), (show decide (q.l.length = 1) = true from decide_eq_true (by omega))]; rfl) | (rw [hro, node_all (by omega), (show decide (q.l.length = 0) = true from decide_eq_true (by omega))]; rfl)), hM462.sub (List.nil_sublist _)⟩
                          ·
                            have h453p : ¬ ((((List.length L) : Nat) : Int) = 0) := p_ne h453
                            refine GoH.takeV 5 (.bool ((((List.length L) : Nat) : Int) == 0)) (.bool false) (some 86) (fun W_ => by kernel_rfl) (congrArg Value.bool h453) hS452 ?_
                            refine GoH.skipF 6 (some 87) (by kernel_rfl) hS452 ?_
                            refine GoH.skipF 7 (some 88) (by kernel_rfl) hS452 ?_
                            refine GoH.skipF 8 (some 89) (by kernel_rfl) hS452 ?_
                            refine GoH.skipF 9 (some 90) (by kernel_rfl) hS452 ?_
                            refine GoH.skipF 10 (some 91) (by kernel_rfl) hS452 ?_
                            refine GoH.takeV 11 (.bool false) (.bool false) (some 92) (fun W_ => by kernel_rfl) rfl hS452 ?_
                            refine GoH.takeV 12 (.bool false) (.bool false) (some 2) (fun W_ => by kernel_rfl) rfl hS452 ?_
                            refine GoH.done [2] [(2, .bool false)] (by kernel_rfl) (by kernel_rfl) ?_
                            have hM463 : Mem [] w0 w449 [] := hM451.sub (cn (cn (List.Sublist.refl _)))
                            refine GoS.ret (fn := Try.f19) (v := (.bool false)) Try.func19 (by kernel_rfl) ?_
                            rw [hR]
                            have hall : rightL q.l = true := by rw [← tk_all (l := q.l) (i := i) (by omega)]; exact hRt
                            have hro := right_of hall
                            rw [← he] at hro
                            exact ⟨ret_bool (by first | (rw [hro, node_join (by omega), (show decide (2 ≤ q.l.length) = false from decide_eq_false (by omega))]; rfl) | (rw [hro, node_not (by omega), (show decide (q.l.length = 1) = false from decide_eq_false (by omega))]; rfl) | (rw [hro, node_all (by omega), (show decide (q.l.length = 0) = false from decide_eq_false (by omega))]; rfl)), hM463.sub (List.nil_sublist _)⟩
                        ·
                          have h372p : ¬ (h.op = 10) := p_ne h372
                          have hM373 : Mem [] w0 w7 [] := hM10.sub (cn (cn (List.Sublist.refl _)))
                          refine GoS.run [2] [.n, .n, .n, .n] _ [.code (csub (cd Try.f19) [1,1,1,1,0,1,0,1,1,1,1,1,1,1,1,1,1,1]), .inBlock 2, .code (csub (cd Try.f19) [1,1,1,1,1])] [(2, .bool false)] w7 (by kernel_rfl) .nil ?_
                          refine GoS.ret (fn := Try.f19) (v := (.bool false)) Try.func19 (by kernel_rfl) ?_
                          rw [hR]
                          have hall : rightL q.l = true := by rw [← tk_all (l := q.l) (i := i) (by omega)]; exact hRt
                          have hro := right_of hall
                          rw [← he] at hro
                          exact ⟨ret_bool (by rw [hro, node_else (by omega)]), hM373.sub (List.nil_sublist _)⟩

set_option maxHeartbeats 400000 in
theorem right_s (N : Nat) (ih : ∀ (q : Q), bulkQ q < N → ∀ {w : World} (h : Hd) (he : h = q.h) (v : Value) (hq : RdQ w q v) (hb : bulkQ q ≤ 1048576) , Calls Try.prog 19 #[(qA h v)] w (fun e w' => e = .returned (.bool (rightQ q)) ∧ Mem [] w w' [])) {w : World} (q : Q) (h : Hd) (he : h = q.h) (v : Value) (hq : RdQ w q v) (hb : bulkQ q ≤ 1048576) (hN : bulkQ q = N) :
    Calls Try.prog 19 #[(qA h v)] w (fun e w' => e = .returned (.bool (rightQ q)) ∧ Mem [] w w' []) := by
  obtain ⟨L, hr, hl, hh, hs⟩ := hq.inv
  have hbl : bulkL q.l + q.h.field.length + q.h.text.length + 1 = bulkQ q := by cases q; rw [bulkQ_mk]; rfl
  have hln := bulk_len q.l
  obtain ⟨R, hR⟩ : ∃ R : Ending → World → Prop, R = (fun e w' => e = .returned (.bool (rightQ q)) ∧ Mem [] w w' []) := ⟨_, rfl⟩
  rw [← hR]
  refine GoS.enter (n := 93) Try.func19 (by kernel_rfl) rfl [(0, (qA h v))] (by kernel_rfl) (by kernel_rfl) ?_
  have hM0 := Mem.start w
  obtain ⟨b1, w2, hr3, hM4⟩ := m_box (T := 25) (k := 8) (u := (qA h v)) rfl rfl hM0
  have hM5 : Mem [] w w2 [⟨25, 8, (obj b1), 1, (qR h v)⟩] := hM4
  have o6 : (Instr.box 25 ((qA h v))).run Try.prog w = .ok (pq b1) w2 := hr3
  have o7 : (Instr.loadAt 23 (.pointer (some (⟨b1, 7, none⟩)))).run Try.prog w2 = .ok (v) w2 := c_load pE23 (hM5.rd 0 rfl) (cel_obj b1 7) rfl
  have o8 : (Builtin.len_ #[23] 3 #[v]).run Try.prog w2 = .ok (.int .i64 (((List.length L) : Nat) : Int)) w2 := f_slen sT23 (hr.kept0 hM5.kept) 3 _
  refine GoS.run [1, 8, 9, 10] [.n, .n, .u (pq b1) (w2), .n, .n, .n, .n, .n, .n, .h (v), .h (.int .i64 (((List.length L) : Nat) : Int)), .n, .n, .n, .n] _ [.code (csub (cd Try.f19) [1,0,1,0,0]), .inLoop (csub (cd Try.f19) [1,0,1,0,0]), .inBlock 0, .code (csub (cd Try.f19) [1,1])] [(1, pq b1), (8, v), (9, .int .i64 (((List.length L) : Nat) : Int)), (10, .int .i64 0)] w2 (by kernel_rfl) (.cons o6 (.cons o7 (.cons o8 .nil))) ?_
  exact right_L N ih q h he v hq hb L hr hl hh hs b1 hN R hR (L.length + 1) 0 w2 (Nat.zero_le _) (by rw [List.take_zero, rightL]) (hM5.sub (cc (List.nil_sublist _))) (by omega)

theorem right_c_n : ∀ (N : Nat), ∀ (q : Q), bulkQ q ≤ N → ∀ {w : World} (h : Hd) (he : h = q.h) (v : Value) (hq : RdQ w q v) (hb : bulkQ q ≤ 1048576) , Calls Try.prog 19 #[(qA h v)] w (fun e w' => e = .returned (.bool (rightQ q)) ∧ Mem [] w w' []) := by
  intro N
  induction N with
  | zero => intro q hn; have := bulk_pos q; omega
  | succ N ihn => intro q hn w h he v hq hb; exact right_s (bulkQ q) (fun c hc => ihn c (by omega)) q h he v hq hb rfl

theorem right_c {w : World} (q : Q) (h : Hd) (he : h = q.h) (v : Value) (hq : RdQ w q v) (hb : bulkQ q ≤ 1048576)  :
    Calls Try.prog 19 #[(qA h v)] w (fun e w' => e = .returned (.bool (rightQ q)) ∧ Mem [] w w' []) := right_c_n (bulkQ q) q (Nat.le_refl _) h he v hq hb


end Go.Proofs.Ytnhplkkbpmijdaa
