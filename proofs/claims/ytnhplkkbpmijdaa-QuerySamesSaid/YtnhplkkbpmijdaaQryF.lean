/-
  The walk of right.
-/
import Derived.Test.YtnhplkkbpmijdaaQryE
namespace Go.Proofs.Ytnhplkkbpmijdaa
open Go Go.Gw Go.UtfP Go.TokP Go.QryP Go.RowKit
set_option linter.unusedVariables false
set_option linter.unusedSimpArgs false


set_option maxHeartbeats 8000000 in
theorem right_L (N : Nat) (ih : ∀ (q : Q), bulkQ q < N → ∀ {w : World} (h : Hd) (he : h = q.h) (v : Value) (hq : RdQ w q v) (hb : bulkQ q ≤ 1048576) , Calls Try.prog 19 #[(qA h v)] w (fun e w' => e = .returned (.bool (rightQ q)) ∧ Mem [] w w' [])) {w0 : World} (q : Q) (h : Hd) (he : h = q.h) (v : Value) (hq : RdQ w0 q v) (hb : bulkQ q ≤ 1048576) (L : List QN) (hr : Rd w0 8 v L.length (recs qnC L)) (hl : L.length = q.l.length) (hh : ∀ j, j < q.l.length → (L.getD j qz).h = (q.l.getD j q0).h) (hs : ∀ j, j < q.l.length → RdQ w0 (q.l.getD j q0) (L.getD j qz).parts) (b : Nat) (hN : bulkQ q = N) (R : Ending → World → Prop) (hR : R = (fun e w' => e = .returned (.bool (rightQ q)) ∧ Mem [] w0 w' [])) : ∀ (M_ : Nat) (i : Nat) (w : World) (hi : i ≤ L.length) (hRt : rightL (q.l.take i) = true) (hM : Mem [] w0 w [⟨25, 8, (obj b), 1, (qR h v)⟩]) (hN : L.length - i < M_), GoS Try.prog 19 R 93 [.code (csub (cd Try.f19) [1,0,1,0,0]), .inLoop (csub (cd Try.f19) [1,0,1,0,0]), .inBlock 0, .code (csub (cd Try.f19) [1,1])] [(1, pq b), (8, v), (9, .int .i64 (((List.length L) : Nat) : Int)), (10, .int .i64 ((i : Nat) : Int))] w := by
  intro M_
  induction M_ with
  | zero => intro i w hi hRt hM hN; exact absurd hN (Nat.not_lt_zero _)
  | succ M_ ih_ =>
    intro i w hi hRt hM hN
    have hbl : bulkL q.l + q.h.field.length + q.h.text.length + 1 = bulkQ q := by cases q; rw [bulkQ_mk]; rfl
    have hln := bulk_len q.l
    have hqe := he
    refine GoS.run [1, 8, 9, 10, 11] [.n, .n, .n, .n, .n] _ [.code (csub (cd Try.f19) [1,0,1,0,0,1,0]), .code (csub (cd Try.f19) [1,0,1,0,0,1,1]), .inLoop (csub (cd Try.f19) [1,0,1,0,0]), .inBlock 0, .code (csub (cd Try.f19) [1,1])] [(1, pq b), (8, v), (9, .int .i64 (((List.length L) : Nat) : Int)), (10, .int .i64 ((i : Nat) : Int)), (11, .bool (decide (((i : Nat) : Int) < (((List.length L) : Nat) : Int))))] w (by kernel_rfl) .nil ?_
    refine GoS.cond (decide (((i : Nat) : Int) < (((List.length L) : Nat) : Int))) [.code (csub (cd Try.f19) [1,0,1,0,0,1,0,0]), .code (csub (cd Try.f19) [1,0,1,0,0,1,1]), .inLoop (csub (cd Try.f19) [1,0,1,0,0]), .inBlock 0, .code (csub (cd Try.f19) [1,1])] [.code (csub (cd Try.f19) [1,0,1,0,0,1,0,1]), .code (csub (cd Try.f19) [1,0,1,0,0,1,1]), .inLoop (csub (cd Try.f19) [1,0,1,0,0]), .inBlock 0, .code (csub (cd Try.f19) [1,1])] (by kernel_rfl) (fun h1 => ?_) (fun h1 => ?_)
    ·
      have h1p : ((i : Nat) : Int) < (((List.length L) : Nat) : Int) := of_decide_eq_true h1
      refine GoS.run [1, 8, 9, 10] [.n] _ [.code (csub (cd Try.f19) [1,0,1,0,0,1,1]), .inLoop (csub (cd Try.f19) [1,0,1,0,0]), .inBlock 0, .code (csub (cd Try.f19) [1,1])] [(1, pq b), (8, v), (9, .int .i64 (((List.length L) : Nat) : Int)), (10, .int .i64 ((i : Nat) : Int))] w (by kernel_rfl) .nil ?_
      obtain ⟨p453, hp454, hq455⟩ := rd_at (i := ((i : Nat) : Int)) sT23 (hr.kept0 hM.kept) i (by omega) (by first | omega | (dsimp only; omega))
      have o465 : (Instr.indexAt 23 (v) (.int .i64 ((i : Nat) : Int))).run Try.prog w = .ok (.pointer (some p453)) w := hq455 _ _
      have o466 : (Instr.loadAt 25 (.pointer (some p453))).run Try.prog w = .ok ((qA ((List.getD L i qz).h) ((List.getD L i qz).parts))) w := r_loads (f := qnC) (l := L) aE25 (hr.kept0 hM.kept) qnC_len hp454 (by first | omega | (dsimp only; omega)) qz
      obtain ⟨b456, w457, hr458, hM459⟩ := m_alloc oT25 hM
      have hM460 : Mem [] w0 w457 [⟨25, 8, (obj b456), 1, (qP 0 (.slice none 0 0))⟩, ⟨25, 8, (obj b), 1, (qR h v)⟩] := hM459
      obtain ⟨w461, hr462, hM463⟩ := c_stores (ys := (qR ((List.getD L i qz).h) ((List.getD L i qz).parts))) aE25 hM460 0 rfl (cel_obj b456 0) rfl (by decide) (by intro u hu; simp at hu; rcases hu with rfl | rfl | rfl | rfl | rfl | rfl | rfl | rfl <;> first | rfl | exact ((hs i (by omega)).kept hM460.kept).one.1)
      have hM464 : Mem [] w0 w461 [⟨25, 8, (obj b456), 1, (qR ((List.getD L i qz).h) ((List.getD L i qz).parts))⟩, ⟨25, 8, (obj b), 1, (qR h v)⟩] := hM463
      have o467 : (Instr.storeAt 25 (pq b456) ((qA ((List.getD L i qz).h) ((List.getD L i qz).parts)))).run Try.prog w457 = .ok () w461 ∧ undef = undef := ⟨hr462, rfl⟩
      have o468 : (Instr.loadAt 25 (pq b456)).run Try.prog w461 = .ok ((qA ((List.getD L i qz).h) ((List.getD L i qz).parts))) w461 := c_loads (ys := (qR ((List.getD L i qz).h) ((List.getD L i qz).parts))) aE25 (hM464.rd 0 rfl) (cel_obj b456 0) rfl (by intro j u hj; match j, hj with | 0, hj => exact hj | 1, hj => exact hj | 2, hj => exact hj | 3, hj => exact hj | 4, hj => exact hj | 5, hj => exact hj | 6, hj => exact hj | 7, hj => exact hj | n + 8, hj => cases hj)
      have hM469 : Mem [] w0 w461 [⟨25, 8, (obj b), 1, (qR h v)⟩] := hM464.sub (cn (cc (List.Sublist.refl _)))
      refine GoS.run [1, 8, 9, 10, 14] [.n, .n, .n, .n, .h (.pointer (some p453)), .h ((qA ((List.getD L i qz).h) ((List.getD L i qz).parts))), .u (pq b456) (w457), .u (undef) (w461), .n, .n, .n, .h ((qA ((List.getD L i qz).h) ((List.getD L i qz).parts)))] _ [.inRegion (cops (csub (cd Try.f19) [1,0,1,0,0,1,1,0,0,1,0])) [1,2], .code (csub (cd Try.f19) [1,0,1,0,0,1,1,0,0,1,1]), .inBlock 1, .code (csub (cd Try.f19) [1,0,1,0,0,1,1,1]), .inLoop (csub (cd Try.f19) [1,0,1,0,0]), .inBlock 0, .code (csub (cd Try.f19) [1,1])] [(1, pq b), (8, v), (9, .int .i64 (((List.length L) : Nat) : Int)), (10, .int .i64 ((i : Nat) : Int)), (14, (qA ((List.getD L i qz).h) ((List.getD L i qz).parts)))] w461 (by kernel_rfl) (.cons o465 (.cons o466 (.cons hr458 (.cons o467 (.cons o468 .nil))))) ?_
      have hkb473 := bulk_kid (l := q.l) (i := i) (by omega)
      have hks474 := size_le (List.getD q.l i q0)
      have hbs475 := bulk_step (l := q.l) (i := i) (by omega)
      refine GoS.call [1, 8, 9, 10] 19 #[(qA ((List.getD L i qz).h) ((List.getD L i qz).parts))] (some 15) [.inRegion (cops (csub (cd Try.f19) [1,0,1,0,0,1,1,0,0,1,0])) [2], .code (csub (cd Try.f19) [1,0,1,0,0,1,1,0,0,1,1]), .inBlock 1, .code (csub (cd Try.f19) [1,0,1,0,0,1,1,1]), .inLoop (csub (cd Try.f19) [1,0,1,0,0]), .inBlock 0, .code (csub (cd Try.f19) [1,1])] [(1, pq b), (8, v), (9, .int .i64 (((List.length L) : Nat) : Int)), (10, .int .i64 ((i : Nat) : Int))] (by kernel_rfl) (ih (List.getD q.l i q0) (by omega) ((List.getD L i qz).h) (hh i (by omega)) ((List.getD L i qz).parts) ((hs i (by omega)).kept hM469.kept) (by omega)) ?_
      rintro _ w470 ⟨rfl, m471⟩
      refine ⟨_, rfl, ?_⟩
      have hM472 : Mem [] w0 w470 [⟨25, 8, (obj b), 1, (qR h v)⟩] := Mem.join (R := []) hM469 m471
      refine GoS.run [1, 8, 9, 10, 16] [.n, .n] _ [.code (csub (cd Try.f19) [1,0,1,0,0,1,1,0,0,1,1]), .inBlock 1, .code (csub (cd Try.f19) [1,0,1,0,0,1,1,1]), .inLoop (csub (cd Try.f19) [1,0,1,0,0]), .inBlock 0, .code (csub (cd Try.f19) [1,1])] [(1, pq b), (8, v), (9, .int .i64 (((List.length L) : Nat) : Int)), (10, .int .i64 ((i : Nat) : Int)), (16, .bool (!(rightQ (List.getD q.l i q0))))] w470 (by kernel_rfl) .nil ?_
      refine GoS.cond (!(rightQ (List.getD q.l i q0))) [.code (csub (cd Try.f19) [1,0,1,0,0,1,1,0,0,1,1,0]), .inBlock 1, .code (csub (cd Try.f19) [1,0,1,0,0,1,1,1]), .inLoop (csub (cd Try.f19) [1,0,1,0,0]), .inBlock 0, .code (csub (cd Try.f19) [1,1])] [.code (csub (cd Try.f19) [1,0,1,0,0,1,1,0,0,1,1,1]), .inBlock 1, .code (csub (cd Try.f19) [1,0,1,0,0,1,1,1]), .inLoop (csub (cd Try.f19) [1,0,1,0,0]), .inBlock 0, .code (csub (cd Try.f19) [1,1])] (by kernel_rfl) (fun h476 => ?_) (fun h476 => ?_)
      ·
        have hM477 : Mem [] w0 w470 [] := hM472.sub (cn (List.Sublist.refl _))
        refine GoS.run [2] [.n, .n, .n, .n] _ [.code (csub (cd Try.f19) [1,0,1,0,0,1,1,0,0,1,1,0,1]), .inBlock 1, .code (csub (cd Try.f19) [1,0,1,0,0,1,1,1]), .inLoop (csub (cd Try.f19) [1,0,1,0,0]), .inBlock 0, .code (csub (cd Try.f19) [1,1])] [(2, .bool false)] w470 (by kernel_rfl) .nil ?_
        refine GoS.ret (fn := Try.f19) (v := (.bool false)) Try.func19 (by kernel_rfl) ?_
        rw [hR]
        exact ⟨ret_bool (right_not (right_bad (show i < q.l.length by omega) (by have z := h476; simpa using z))).symm, hM477.sub (List.nil_sublist _)⟩
      ·
        refine GoS.run [1, 8, 9, 10] [.n] _ [.inBlock 1, .code (csub (cd Try.f19) [1,0,1,0,0,1,1,1]), .inLoop (csub (cd Try.f19) [1,0,1,0,0]), .inBlock 0, .code (csub (cd Try.f19) [1,1])] [(1, pq b), (8, v), (9, .int .i64 (((List.length L) : Nat) : Int)), (10, .int .i64 ((i : Nat) : Int))] w470 (by kernel_rfl) .nil ?_
        have o478 : (binOp .add 3 (.int .i64 ((i : Nat) : Int)) (.int .i64 1)).run Try.prog w470 = .ok (.int .i64 (((i + 1) : Nat) : Int)) w470 := f_add (by rw [show ((i : Nat) : Int) + 1 = (((i + 1) : Nat) : Int) by omega]; exact IntWalk.i64_in _ (by omega))
        refine GoS.run [1, 8, 9, 10] [.n, .n, .h (.int .i64 (((i + 1) : Nat) : Int)), .n, .n, .n] _ [.code (csub (cd Try.f19) [1,0,1,0,0]), .inLoop (csub (cd Try.f19) [1,0,1,0,0]), .inBlock 0, .code (csub (cd Try.f19) [1,1])] [(1, pq b), (8, v), (9, .int .i64 (((List.length L) : Nat) : Int)), (10, .int .i64 (((i + 1) : Nat) : Int))] w470 (by kernel_rfl) (.cons o478 .nil) ?_
        exact ih_ (i + 1) _ (by omega) (by rw [right_step (show i < q.l.length by omega), hRt, Bool.true_and]; have z := h476; simpa using z) (hM472.sub (cc (List.nil_sublist _))) (by omega)
    ·
      have h1p : ¬ (((i : Nat) : Int) < (((List.length L) : Nat) : Int)) := of_decide_eq_false h1
      have o11 : (Instr.loadAt 3 (pq b)).run Try.prog w = .ok (.int .i64 (h.op)) w := c_load pE3 (hM.rd 0 rfl) (cel_obj b 0) rfl
      have o12 : (Instr.loadAt 23 (.pointer (some (⟨b, 7, none⟩)))).run Try.prog w = .ok (v) w := c_load pE23 (hM.rd 0 rfl) (cel_obj b 7) rfl
      have o13 : (Instr.build 25 #[(0, .int .i64 (h.op)), (7, v)]).run Try.prog w = .ok (.agg #[.int .i64 (h.op), .string (sb ([])), .string (sb ([])), .int .i64 0, .int .i64 0, .int .u64 0, .int .u64 0, v]) w := (by obtain ⟨a0_, m0_, c0_, e0_⟩ : ∃ a m c, v = Value.slice a m c := rd_form (hr.kept0 hM.kept); rw [e0_]; kernel_rfl)
      obtain ⟨b2, w3, hr4, hM5⟩ := m_alloc oT25 hM
      have hM6 : Mem [] w0 w3 [⟨25, 8, (obj b2), 1, (qP 0 (.slice none 0 0))⟩, ⟨25, 8, (obj b), 1, (qR h v)⟩] := hM5
      obtain ⟨w7, hr8, hM9⟩ := c_stores (ys := [.int .i64 (h.op), .string (sb ([])), .string (sb ([])), .int .i64 0, .int .i64 0, .int .u64 0, .int .u64 0, v]) aE25 hM6 0 rfl (cel_obj b2 0) rfl (by decide) (by intro u hu; simp at hu; rcases hu with rfl | rfl | rfl | rfl | rfl | rfl | rfl | rfl <;> first | rfl | exact (hq.kept hM6.kept).one.1)
      have hM10 : Mem [] w0 w7 [⟨25, 8, (obj b2), 1, [.int .i64 (h.op), .string (sb ([])), .string (sb ([])), .int .i64 0, .int .i64 0, .int .u64 0, .int .u64 0, v]⟩, ⟨25, 8, (obj b), 1, (qR h v)⟩] := hM9
      have o14 : (Instr.storeAt 25 (pq b2) (.agg #[.int .i64 (h.op), .string (sb ([])), .string (sb ([])), .int .i64 0, .int .i64 0, .int .u64 0, .int .u64 0, v])).run Try.prog w3 = .ok () w7 ∧ undef = undef := ⟨hr8, rfl⟩
      have o15 : (Instr.loadAt 3 (pq b)).run Try.prog w7 = .ok (.int .i64 (h.op)) w7 := c_load pE3 (hM10.rd 1 rfl) (cel_obj b 0) rfl
      refine GoS.run [1, 5, 6, 24, 25] [.n, .n, .n, .n, .h (.int .i64 (h.op)), .n, .h (v), .h (.agg #[.int .i64 (h.op), .string (sb ([])), .string (sb ([])), .int .i64 0, .int .i64 0, .int .u64 0, .int .u64 0, v]), .u (pq b2) (w3), .u (undef) (w7), .n, .n, .n, .n, .n, .n, .n, .n, .n, .h (.int .i64 (h.op)), .n, .n, .n, .n, .n, .n, .n, .n] _ [.code (csub (cd Try.f19) [1,1,1,1,0,1,0,0,1]), .code (csub (cd Try.f19) [1,1,1,1,0,1,0,1]), .inBlock 2, .code (csub (cd Try.f19) [1,1,1,1,1])] [(1, pq b), (5, pq b2), (6, .int .i64 0), (24, .int .i64 (h.op)), (25, .bool (h.op == 1))] w7 (by kernel_rfl) (.cons o11 (.cons o12 (.cons o13 (.cons hr4 (.cons o14 (.cons o15 .nil)))))) ?_
      refine GoS.cond (h.op == 1) [.code (csub (cd Try.f19) [1,1,1,1,0,1,0,0,1,0]), .code (csub (cd Try.f19) [1,1,1,1,0,1,0,1]), .inBlock 2, .code (csub (cd Try.f19) [1,1,1,1,1])] [.code (csub (cd Try.f19) [1,1,1,1,0,1,0,0,1,1]), .code (csub (cd Try.f19) [1,1,1,1,0,1,0,1]), .inBlock 2, .code (csub (cd Try.f19) [1,1,1,1,1])] (by kernel_rfl) (fun h16 => ?_) (fun h16 => ?_)
      ·
        have h16p : h.op = 1 := eq_of_beq h16
        refine GoS.run [1, 5, 6, 24, 25] [.n] _ [.code (csub (cd Try.f19) [1,1,1,1,0,1,0,1]), .inBlock 2, .code (csub (cd Try.f19) [1,1,1,1,1])] [(1, pq b), (5, pq b2), (6, .int .i64 0), (24, .int .i64 (h.op)), (25, .bool (h.op == 1))] w7 (by kernel_rfl) .nil ?_
        refine GoS.cond (h.op == 1) [.code (csub (cd Try.f19) [1,1,1,1,0,1,0,1,0]), .inBlock 2, .code (csub (cd Try.f19) [1,1,1,1,1])] [.code (csub (cd Try.f19) [1,1,1,1,0,1,0,1,1]), .inBlock 2, .code (csub (cd Try.f19) [1,1,1,1,1])] (by kernel_rfl) (fun h20 => ?_) (fun h20 => ?_)
        ·
          have h20p : h.op = 1 := eq_of_beq h20
          refine GoS.run [1, 5, 6] [.n] _ [.code (csub (cd Try.f19) [1,1,1,1,0,1,0,1,0,0]), .code (csub (cd Try.f19) [1,1,1,1,0,1,0,1,0,1]), .inBlock 2, .code (csub (cd Try.f19) [1,1,1,1,1])] [(1, pq b), (5, pq b2), (6, .int .i64 0)] w7 (by kernel_rfl) .nil ?_
          obtain ⟨w21, hw22⟩ : ∃ w_, (w7).drewN 1 = w_ := ⟨_, rfl⟩
          refine GoS.held (fun W_ => Mem [] w0 W_ [⟨25, 8, (obj b), 1, (qR h v)⟩]) [7] 16 (by kernel_rfl) (by kernel_rfl) 8 (by kernel_rfl) ?_
          rw [hw22]
          have hM23 : Mem [] w0 w21 [⟨25, 8, (obj b2), 1, [.int .i64 (h.op), .string (sb ([])), .string (sb ([])), .int .i64 0, .int .i64 0, .int .u64 0, .int .u64 0, v]⟩, ⟨25, 8, (obj b), 1, (qR h v)⟩] := hw22 ▸ hM10.ext (Kept.drewN _ _ 1)
          have hS24 : Mem [] w0 w21 [⟨25, 8, (obj b), 1, (qR h v)⟩] := hM23.sub (cn (cc (List.Sublist.refl _)))
          refine GoH.takeV 0 (.pointer (some (⟨b, 1, none⟩))) (.pointer (some (⟨b, 1, none⟩))) (some 31) (fun W_ => by kernel_rfl) rfl hS24 ?_
          refine GoH.takeF 1 (.string (sb (h.field))) (fun W_ => (Instr.loadAt 9 (.pointer (some (⟨b, 1, none⟩)))).run Try.prog W_ = .ok (.string (sb (h.field))) W_) (some 32) (fun W_ => by kernel_rfl) (fun W_ hW_ => c_load pE9 (hW_.rd 0 rfl) (cel_obj b 1) rfl) hS24 ?_
          refine GoH.takeV 2 (.pointer (some (⟨b, 2, none⟩))) (.pointer (some (⟨b, 2, none⟩))) (some 33) (fun W_ => by kernel_rfl) rfl hS24 ?_
          refine GoH.takeF 3 (.string (sb (h.text))) (fun W_ => (Instr.loadAt 9 (.pointer (some (⟨b, 2, none⟩)))).run Try.prog W_ = .ok (.string (sb (h.text))) W_) (some 34) (fun W_ => by kernel_rfl) (fun W_ hW_ => c_load pE9 (hW_.rd 0 rfl) (cel_obj b 2) rfl) hS24 ?_
          refine GoH.takeV 4 (.pointer (some (⟨b2, 1, none⟩))) (.pointer (some (⟨b2, 1, none⟩))) (some 35) (fun W_ => by kernel_rfl) rfl hS24 ?_
          obtain ⟨w25, hr26, hM27⟩ := c_store (u := .string (sb (h.field))) (by kernel_rfl) hM23 0 rfl (cel_obj b2 1) (by decide) rfl rfl
          have hM28 : Mem [] w0 w25 [⟨25, 8, (obj b2), 1, [.int .i64 (h.op), .string (sb (h.field)), .string (sb ([])), .int .i64 0, .int .i64 0, .int .u64 0, .int .u64 0, v]⟩, ⟨25, 8, (obj b), 1, (qR h v)⟩] := hM27
          have hS29 : Mem [] w0 w25 [⟨25, 8, (obj b), 1, (qR h v)⟩] := hM28.sub (cn (cc (List.Sublist.refl _)))
          refine GoH.stepF 5 (undef) (w25) ((Instr.storeAt 9 (.pointer (some (⟨b2, 1, none⟩))) (.string (sb (h.field)))).run Try.prog w21 = .ok () w25 ∧ undef = undef) none (by kernel_rfl) (⟨hr26, rfl⟩) (.inr hS29) ?_
          refine GoH.takeV 6 (.pointer (some (⟨b2, 2, none⟩))) (.pointer (some (⟨b2, 2, none⟩))) (some 36) (fun W_ => by kernel_rfl) rfl hS29 ?_
          obtain ⟨w30, hr31, hM32⟩ := c_store (u := .string (sb (h.text))) (by kernel_rfl) hM28 0 rfl (cel_obj b2 2) (by decide) rfl rfl
          have hM33 : Mem [] w0 w30 [⟨25, 8, (obj b2), 1, [.int .i64 (h.op), .string (sb (h.field)), .string (sb (h.text)), .int .i64 0, .int .i64 0, .int .u64 0, .int .u64 0, v]⟩, ⟨25, 8, (obj b), 1, (qR h v)⟩] := hM32
          refine GoH.stepF 7 (undef) (w30) ((Instr.storeAt 9 (.pointer (some (⟨b2, 2, none⟩))) (.string (sb (h.text)))).run Try.prog w25 = .ok () w30 ∧ undef = undef) none (by kernel_rfl) (⟨hr31, rfl⟩) (.inl rfl) ?_
          refine GoH.done [1, 5, 6] [(1, pq b), (5, pq b2), (6, .int .i64 0)] (by kernel_rfl) (by kernel_rfl) ?_
          have o34 : (Instr.loadAt 3 (pq b)).run Try.prog w30 = .ok (.int .i64 (h.op)) w30 := c_load pE3 (hM33.rd 1 rfl) (cel_obj b 0) rfl
          refine GoS.run [1, 5, 6, 39] [.n, .n, .n, .n, .h (.int .i64 (h.op)), .n, .n] _ [.code (csub (cd Try.f19) [1,1,1,1,0,1,0,1,0,1,0,1]), .code (csub (cd Try.f19) [1,1,1,1,0,1,0,1,0,1,1]), .inBlock 2, .code (csub (cd Try.f19) [1,1,1,1,1])] [(1, pq b), (5, pq b2), (6, .int .i64 0), (39, .bool (h.op == 4))] w30 (by kernel_rfl) (.cons o34 .nil) ?_
          refine GoS.cond (h.op == 4) [.code (csub (cd Try.f19) [1,1,1,1,0,1,0,1,0,1,0,1,0]), .code (csub (cd Try.f19) [1,1,1,1,0,1,0,1,0,1,1]), .inBlock 2, .code (csub (cd Try.f19) [1,1,1,1,1])] [.code (csub (cd Try.f19) [1,1,1,1,0,1,0,1,0,1,0,1,1]), .code (csub (cd Try.f19) [1,1,1,1,0,1,0,1,0,1,1]), .inBlock 2, .code (csub (cd Try.f19) [1,1,1,1,1])] (by kernel_rfl) (fun h35 => ?_) (fun h35 => ?_)
          ·
            have h35p : h.op = 4 := eq_of_beq h35
            obtain ⟨w36, hw37⟩ : ∃ w_, (w30).drewN 1 = w_ := ⟨_, rfl⟩
            refine GoS.held (fun W_ => Mem [] w0 W_ [⟨25, 8, (obj b), 1, (qR h v)⟩]) [7] 18 (by kernel_rfl) (by kernel_rfl) 8 (by kernel_rfl) ?_
            rw [hw37]
            have hM38 : Mem [] w0 w36 [⟨25, 8, (obj b2), 1, [.int .i64 (h.op), .string (sb (h.field)), .string (sb (h.text)), .int .i64 0, .int .i64 0, .int .u64 0, .int .u64 0, v]⟩, ⟨25, 8, (obj b), 1, (qR h v)⟩] := hw37 ▸ hM33.ext (Kept.drewN _ _ 1)
            have hS39 : Mem [] w0 w36 [⟨25, 8, (obj b), 1, (qR h v)⟩] := hM38.sub (cn (cc (List.Sublist.refl _)))
            refine GoH.takeV 0 (.pointer (some (⟨b, 3, none⟩))) (.pointer (some (⟨b, 3, none⟩))) (some 40) (fun W_ => by kernel_rfl) rfl hS39 ?_
            refine GoH.takeF 1 (.int .i64 (h.edits)) (fun W_ => (Instr.loadAt 3 (.pointer (some (⟨b, 3, none⟩)))).run Try.prog W_ = .ok (.int .i64 (h.edits)) W_) (some 41) (fun W_ => by kernel_rfl) (fun W_ hW_ => c_load pE3 (hW_.rd 0 rfl) (cel_obj b 3) rfl) hS39 ?_
            refine GoH.takeV 2 (.pointer (some (⟨b, 4, none⟩))) (.pointer (some (⟨b, 4, none⟩))) (some 42) (fun W_ => by kernel_rfl) rfl hS39 ?_
            refine GoH.takeF 3 (.int .i64 (h.exact)) (fun W_ => (Instr.loadAt 3 (.pointer (some (⟨b, 4, none⟩)))).run Try.prog W_ = .ok (.int .i64 (h.exact)) W_) (some 43) (fun W_ => by kernel_rfl) (fun W_ hW_ => c_load pE3 (hW_.rd 0 rfl) (cel_obj b 4) rfl) hS39 ?_
            refine GoH.takeV 4 (.pointer (some (⟨b2, 3, none⟩))) (.pointer (some (⟨b2, 3, none⟩))) (some 44) (fun W_ => by kernel_rfl) rfl hS39 ?_
            obtain ⟨w40, hr41, hM42⟩ := c_store (u := .int .i64 (h.edits)) (by kernel_rfl) hM38 0 rfl (cel_obj b2 3) (by decide) rfl rfl
            have hM43 : Mem [] w0 w40 [⟨25, 8, (obj b2), 1, [.int .i64 (h.op), .string (sb (h.field)), .string (sb (h.text)), .int .i64 (h.edits), .int .i64 0, .int .u64 0, .int .u64 0, v]⟩, ⟨25, 8, (obj b), 1, (qR h v)⟩] := hM42
            have hS44 : Mem [] w0 w40 [⟨25, 8, (obj b), 1, (qR h v)⟩] := hM43.sub (cn (cc (List.Sublist.refl _)))
            refine GoH.stepF 5 (undef) (w40) ((Instr.storeAt 3 (.pointer (some (⟨b2, 3, none⟩))) (.int .i64 (h.edits))).run Try.prog w36 = .ok () w40 ∧ undef = undef) none (by kernel_rfl) (⟨hr41, rfl⟩) (.inr hS44) ?_
            refine GoH.takeV 6 (.pointer (some (⟨b2, 4, none⟩))) (.pointer (some (⟨b2, 4, none⟩))) (some 45) (fun W_ => by kernel_rfl) rfl hS44 ?_
            obtain ⟨w45, hr46, hM47⟩ := c_store (u := .int .i64 (h.exact)) (by kernel_rfl) hM43 0 rfl (cel_obj b2 4) (by decide) rfl rfl
            have hM48 : Mem [] w0 w45 [⟨25, 8, (obj b2), 1, [.int .i64 (h.op), .string (sb (h.field)), .string (sb (h.text)), .int .i64 (h.edits), .int .i64 (h.exact), .int .u64 0, .int .u64 0, v]⟩, ⟨25, 8, (obj b), 1, (qR h v)⟩] := hM47
            refine GoH.stepF 7 (undef) (w45) ((Instr.storeAt 3 (.pointer (some (⟨b2, 4, none⟩))) (.int .i64 (h.exact))).run Try.prog w40 = .ok () w45 ∧ undef = undef) none (by kernel_rfl) (⟨hr46, rfl⟩) (.inl rfl) ?_
            refine GoH.done [1, 5, 6] [(1, pq b), (5, pq b2), (6, .int .i64 0)] (by kernel_rfl) (by kernel_rfl) ?_
            have o49 : (Instr.loadAt 9 (.pointer (some (⟨b, 1, none⟩)))).run Try.prog w45 = .ok (.string (sb (h.field))) w45 := c_load pE9 (hM48.rd 1 rfl) (cel_obj b 1) rfl
            refine GoS.run [1, 5, 6, 47] [.n, .n, .n, .h (.string (sb (h.field)))] _ [.inRegion (cops (csub (cd Try.f19) [1,1,1,1,0,1,0,1,0,1,1,0])) [2,3,4,5,6,7,8], .code (csub (cd Try.f19) [1,1,1,1,0,1,0,1,0,1,1,1]), .inBlock 2, .code (csub (cd Try.f19) [1,1,1,1,1])] [(1, pq b), (5, pq b2), (6, .int .i64 0), (47, .string (sb (h.field)))] w45 (by kernel_rfl) (.cons o49 .nil) ?_
            refine GoS.call [1, 5, 6] 22 #[.string (sb (h.field))] (some 48) [.inRegion (cops (csub (cd Try.f19) [1,1,1,1,0,1,0,1,0,1,1,0])) [3,4,5,6,7,8], .code (csub (cd Try.f19) [1,1,1,1,0,1,0,1,0,1,1,1]), .inBlock 2, .code (csub (cd Try.f19) [1,1,1,1,1])] [(1, pq b), (5, pq b2), (6, .int .i64 0)] (by kernel_rfl) (name_c (h.field) (by rw [he]; omega) w45) ?_
            rintro _ _ ⟨rfl, rfl⟩
            refine ⟨_, rfl, ?_⟩
            refine GoS.run [1, 5, 6, 50] [.n, .n] _ [.inRegion (cops (csub (cd Try.f19) [1,1,1,1,0,1,0,1,0,1,1,0])) [5,6,7,8], .code (csub (cd Try.f19) [1,1,1,1,0,1,0,1,0,1,1,1]), .inBlock 2, .code (csub (cd Try.f19) [1,1,1,1,1])] [(1, pq b), (5, pq b2), (6, .int .i64 0), (50, .bool (!(nameP (h.field))))] w45 (by kernel_rfl) .nil ?_
            refine GoS.fork 50 (!(nameP (h.field))) (by kernel_rfl) (fun h50 => ?_) (fun h50 => ?_)
            ·
              refine GoS.run [1, 5, 6, 54] [.n, .n, .n, .n] _ [.inRegion (cops (csub (cd Try.f19) [1,1,1,1,0,1,0,1,0,1,1,0])) [], .code (csub (cd Try.f19) [1,1,1,1,0,1,0,1,0,1,1,1]), .inBlock 2, .code (csub (cd Try.f19) [1,1,1,1,1])] [(1, pq b), (5, pq b2), (6, .int .i64 0), (54, .bool true)] w45 (by kernel_rfl) .nil ?_
              have hM55 : Mem [] w0 w45 [] := hM48.sub (cn (cn (List.Sublist.refl _)))
              refine GoS.run [2] [.n, .n, .n, .n, .n, .n] _ [.code (csub (cd Try.f19) [1,1,1,1,0,1,0,1,0,1,1,1,0,1]), .inBlock 2, .code (csub (cd Try.f19) [1,1,1,1,1])] [(2, .bool false)] w45 (by kernel_rfl) .nil ?_
              refine GoS.ret (fn := Try.f19) (v := (.bool false)) Try.func19 (by kernel_rfl) ?_
              rw [hR]
              have hall : rightL q.l = true := by rw [← tk_all (l := q.l) (i := i) (by omega)]; exact hRt
              have hro := right_of hall
              rw [← he] at hro
              exact ⟨ret_bool (by rw [hro, node_name (by omega) (by have z := h50; simpa using z)]), hM55.sub (List.nil_sublist _)⟩
            ·
              have o51 : (Instr.loadAt 25 (pq b)).run Try.prog w45 = .ok ((qA h v)) w45 := c_loads (ys := (qR h v)) aE25 (hM48.rd 1 rfl) (cel_obj b 0) rfl (by intro j u hj; match j, hj with | 0, hj => exact hj | 1, hj => exact hj | 2, hj => exact hj | 3, hj => exact hj | 4, hj => exact hj | 5, hj => exact hj | 6, hj => exact hj | 7, hj => exact hj | n + 8, hj => cases hj)
              refine GoS.run [1, 5, 6, 50, 51] [.h ((qA h v))] _ [.inRegion (cops (csub (cd Try.f19) [1,1,1,1,0,1,0,1,0,1,1,0])) [6,7,8], .code (csub (cd Try.f19) [1,1,1,1,0,1,0,1,0,1,1,1]), .inBlock 2, .code (csub (cd Try.f19) [1,1,1,1,1])] [(1, pq b), (5, pq b2), (6, .int .i64 0), (50, .bool false), (51, (qA h v))] w45 (by kernel_rfl) (.cons o51 .nil) ?_
              refine GoS.call [1, 5, 6, 50] 23 #[(qA h v)] (some 52) [.inRegion (cops (csub (cd Try.f19) [1,1,1,1,0,1,0,1,0,1,1,0])) [7,8], .code (csub (cd Try.f19) [1,1,1,1,0,1,0,1,0,1,1,1]), .inBlock 2, .code (csub (cd Try.f19) [1,1,1,1,1])] [(1, pq b), (5, pq b2), (6, .int .i64 0), (50, .bool false)] (by kernel_rfl) (words_c q h he v (hq.kept hM48.kept) (by omega)) ?_
              rintro _ w52 ⟨rfl, m53⟩
              refine ⟨_, rfl, ?_⟩
              have hM54 : Mem [] w0 w52 [⟨25, 8, (obj b2), 1, [.int .i64 (h.op), .string (sb (h.field)), .string (sb (h.text)), .int .i64 (h.edits), .int .i64 (h.exact), .int .u64 0, .int .u64 0, v]⟩, ⟨25, 8, (obj b), 1, (qR h v)⟩] := Mem.join (R := []) hM48 m53
              refine GoS.run [1, 5, 6, 54] [.n, .n] _ [.inRegion (cops (csub (cd Try.f19) [1,1,1,1,0,1,0,1,0,1,1,0])) [], .code (csub (cd Try.f19) [1,1,1,1,0,1,0,1,0,1,1,1]), .inBlock 2, .code (csub (cd Try.f19) [1,1,1,1,1])] [(1, pq b), (5, pq b2), (6, .int .i64 0), (54, .bool (!(wordsP h)))] w52 (by kernel_rfl) .nil ?_
              refine GoS.run [1, 5, 6, 54] [.n] _ [.code (csub (cd Try.f19) [1,1,1,1,0,1,0,1,0,1,1,1]), .inBlock 2, .code (csub (cd Try.f19) [1,1,1,1,1])] [(1, pq b), (5, pq b2), (6, .int .i64 0), (54, .bool (!(wordsP h)))] w52 (by kernel_rfl) .nil ?_
              refine GoS.cond (!(wordsP h)) [.code (csub (cd Try.f19) [1,1,1,1,0,1,0,1,0,1,1,1,0]), .inBlock 2, .code (csub (cd Try.f19) [1,1,1,1,1])] [.code (csub (cd Try.f19) [1,1,1,1,0,1,0,1,0,1,1,1,1]), .inBlock 2, .code (csub (cd Try.f19) [1,1,1,1,1])] (by kernel_rfl) (fun h56 => ?_) (fun h56 => ?_)
              ·
                have hM57 : Mem [] w0 w52 [] := hM54.sub (cn (cn (List.Sublist.refl _)))
                refine GoS.run [2] [.n, .n, .n, .n] _ [.code (csub (cd Try.f19) [1,1,1,1,0,1,0,1,0,1,1,1,0,1]), .inBlock 2, .code (csub (cd Try.f19) [1,1,1,1,1])] [(2, .bool false)] w52 (by kernel_rfl) .nil ?_
                refine GoS.ret (fn := Try.f19) (v := (.bool false)) Try.func19 (by kernel_rfl) ?_
                rw [hR]
                have hall : rightL q.l = true := by rw [← tk_all (l := q.l) (i := i) (by omega)]; exact hRt
                have hro := right_of hall
                rw [← he] at hro
                exact ⟨ret_bool (by rw [hro, node_noword (by omega) (of_decide_eq_false (by have z := h56; simpa [wordsP] using z))]), hM57.sub (List.nil_sublist _)⟩
              ·
                refine GoS.run [1, 5, 6] [.n] _ [.inBlock 2, .code (csub (cd Try.f19) [1,1,1,1,1])] [(1, pq b), (5, pq b2), (6, .int .i64 0)] w52 (by kernel_rfl) .nil ?_
                refine GoS.run [1, 5, 6] [.n, .n] _ [.code (csub (cd Try.f19) [1,1,1,1,1,0]), .code (csub (cd Try.f19) [1,1,1,1,1,1])] [(1, pq b), (5, pq b2), (6, .int .i64 0)] w52 (by kernel_rfl) .nil ?_
                obtain ⟨w67, hw68⟩ : ∃ w_, (w52).drewN 1 = w_ := ⟨_, rfl⟩
                refine GoS.held (fun W_ => Mem [] w0 W_ [⟨25, 8, (obj b2), 1, [.int .i64 (h.op), .string (sb (h.field)), .string (sb (h.text)), .int .i64 (h.edits), .int .i64 (h.exact), .int .u64 0, .int .u64 0, v]⟩, ⟨25, 8, (obj b), 1, (qR h v)⟩]) [] 31 (by kernel_rfl) (by kernel_rfl) 13 (by kernel_rfl) ?_
                rw [hw68]
                have hM69 : Mem [] w0 w67 [⟨25, 8, (obj b2), 1, [.int .i64 (h.op), .string (sb (h.field)), .string (sb (h.text)), .int .i64 (h.edits), .int .i64 (h.exact), .int .u64 0, .int .u64 0, v]⟩, ⟨25, 8, (obj b), 1, (qR h v)⟩] := hw68 ▸ hM54.ext (Kept.drewN _ _ 1)
                have hS70 : Mem [] w0 w67 [⟨25, 8, (obj b2), 1, [.int .i64 (h.op), .string (sb (h.field)), .string (sb (h.text)), .int .i64 (h.edits), .int .i64 (h.exact), .int .u64 0, .int .u64 0, v]⟩, ⟨25, 8, (obj b), 1, (qR h v)⟩] := hM69.sub (cc (cc (List.Sublist.refl _)))
                refine GoH.takeV 0 (.pointer (some (⟨b, 7, none⟩))) (.pointer (some (⟨b, 7, none⟩))) (some 81) (fun W_ => by kernel_rfl) rfl hS70 ?_
                refine GoH.takeF 1 (v) (fun W_ => (Instr.loadAt 23 (.pointer (some (⟨b, 7, none⟩)))).run Try.prog W_ = .ok (v) W_) (some 82) (fun W_ => by kernel_rfl) (fun W_ hW_ => c_load pE23 (hW_.rd 1 rfl) (cel_obj b 7) rfl) hS70 ?_
                refine GoH.takeF 2 (.int .i64 (((List.length L) : Nat) : Int)) (fun W_ => (Builtin.len_ #[23] 3 #[v]).run Try.prog W_ = .ok (.int .i64 (((List.length L) : Nat) : Int)) W_) (some 83) (fun W_ => by kernel_rfl) (fun W_ hW_ => f_slen sT23 (hr.kept0 hW_.kept) 3 _) hS70 ?_
                refine GoH.takeV 3 (.int .i64 0) (.int .i64 0) (some 84) (fun W_ => by kernel_rfl) rfl hS70 ?_
                refine GoH.takeV 4 (.bool ((((List.length L) : Nat) : Int) == 0)) (.bool ((((List.length L) : Nat) : Int) == 0)) (some 85) (fun W_ => by kernel_rfl) rfl hS70 ?_
                rcases Bool.eq_false_or_eq_true ((((List.length L) : Nat) : Int) == 0) with h71 | h71
                ·
                  have h71p : (((List.length L) : Nat) : Int) = 0 := eq_of_beq h71
                  refine GoH.takeV 5 (.bool ((((List.length L) : Nat) : Int) == 0)) (.bool true) (some 86) (fun W_ => by kernel_rfl) (congrArg Value.bool h71) hS70 ?_
                  refine GoH.takeF 6 ((qA h v)) (fun W_ => (Instr.loadAt 25 (pq b)).run Try.prog W_ = .ok ((qA h v)) W_) (some 87) (fun W_ => by kernel_rfl) (fun W_ hW_ => c_loads (ys := (qR h v)) aE25 (hW_.rd 1 rfl) (cel_obj b 0) rfl (by intro j u hj; match j, hj with | 0, hj => exact hj | 1, hj => exact hj | 2, hj => exact hj | 3, hj => exact hj | 4, hj => exact hj | 5, hj => exact hj | 6, hj => exact hj | 7, hj => exact hj | n + 8, hj => cases hj)) hS70 ?_
                  refine GoH.takeF 8 (.agg #[.int .i64 (h.op), .string (sb (h.field)), .string (sb (h.text)), .int .i64 (h.edits), .int .i64 (h.exact), .int .u64 0, .int .u64 0, v]) (fun W_ => (Instr.loadAt 25 (pq b2)).run Try.prog W_ = .ok (.agg #[.int .i64 (h.op), .string (sb (h.field)), .string (sb (h.text)), .int .i64 (h.edits), .int .i64 (h.exact), .int .u64 0, .int .u64 0, v]) W_) (some 89) (fun W_ => by kernel_rfl) (fun W_ hW_ => c_loads (ys := [.int .i64 (h.op), .string (sb (h.field)), .string (sb (h.text)), .int .i64 (h.edits), .int .i64 (h.exact), .int .u64 0, .int .u64 0, v]) aE25 (hW_.rd 0 rfl) (cel_obj b2 0) rfl (by intro j u hj; match j, hj with | 0, hj => exact hj | 1, hj => exact hj | 2, hj => exact hj | 3, hj => exact hj | 4, hj => exact hj | 5, hj => exact hj | 6, hj => exact hj | 7, hj => exact hj | n + 8, hj => cases hj)) hS70 ?_
                  refine GoH.callF 7 21 #[(qA h v)] (some 88) (by kernel_rfl) (flat_c (w := w67) h v) ?_
                  rintro _ w72 ⟨rfl, m73⟩
                  have hM74 : Mem [] w0 w72 [⟨25, 8, (obj b2), 1, [.int .i64 (h.op), .string (sb (h.field)), .string (sb (h.text)), .int .i64 (h.edits), .int .i64 (h.exact), .int .u64 0, .int .u64 0, v]⟩, ⟨25, 8, (obj b), 1, (qR h v)⟩] := Mem.join (R := []) hM69 m73
                  have hS75 : Mem [] w0 w72 [⟨25, 8, (obj b2), 1, [.int .i64 (h.op), .string (sb (h.field)), .string (sb (h.text)), .int .i64 (h.edits), .int .i64 (h.exact), .int .u64 0, .int .u64 0, v]⟩, ⟨25, 8, (obj b), 1, (qR h v)⟩] := hM74.sub (cc (cc (List.Sublist.refl _)))
                  refine ⟨(qH h), rfl, .inr hS75, ?_⟩
                  refine GoH.callF 9 21 #[.agg #[.int .i64 (h.op), .string (sb (h.field)), .string (sb (h.text)), .int .i64 (h.edits), .int .i64 (h.exact), .int .u64 0, .int .u64 0, v]] (some 90) (by kernel_rfl) (flat_c (w := w72) (Hd.mk (h.op) (h.field) (h.text) (h.edits) (h.exact) 0 0) v) ?_
                  rintro _ w76 ⟨rfl, m77⟩
                  have hM78 : Mem [] w0 w76 [⟨25, 8, (obj b2), 1, [.int .i64 (h.op), .string (sb (h.field)), .string (sb (h.text)), .int .i64 (h.edits), .int .i64 (h.exact), .int .u64 0, .int .u64 0, v]⟩, ⟨25, 8, (obj b), 1, (qR h v)⟩] := Mem.join (R := []) hM74 m77
                  have hS79 : Mem [] w0 w76 [⟨25, 8, (obj b2), 1, [.int .i64 (h.op), .string (sb (h.field)), .string (sb (h.text)), .int .i64 (h.edits), .int .i64 (h.exact), .int .u64 0, .int .u64 0, v]⟩, ⟨25, 8, (obj b), 1, (qR h v)⟩] := hM78.sub (cc (cc (List.Sublist.refl _)))
                  refine ⟨.agg #[.int .i64 (h.op), .string (sb (h.field)), .string (sb (h.text)), .int .i64 (h.edits), .int .i64 (h.exact), .int .u64 0, .int .u64 0], rfl, .inr hS79, ?_⟩
                  refine GoH.takeF 10 (.bool (nothP h true true false)) (fun W_ => Try.prog.eqGuardType Try.prog.depth 38 = false ∧ (binOp .eql 38 ((qH h)) (.agg #[.int .i64 (h.op), .string (sb (h.field)), .string (sb (h.text)), .int .i64 (h.edits), .int .i64 (h.exact), .int .u64 0, .int .u64 0])).run Try.prog W_ = .ok (.bool (nothP h true true false)) W_) (some 91) (fun W_ => by kernel_rfl) (fun W_ hW_ => f_ageq eT38 (xs := [.int .i64 (h.op), .string (sb (h.field)), .string (sb (h.text)), .int .i64 (h.edits), .int .i64 (h.exact), .int .u64 (h.lo), .int .u64 (h.hi)]) (ys := [.int .i64 (h.op), .string (sb (h.field)), .string (sb (h.text)), .int .i64 (h.edits), .int .i64 (h.exact), .int .u64 0, .int .u64 0]) (r := ((h.op == h.op) && (((sb (h.field)).toList == (sb (h.field)).toList) && (((sb (h.text)).toList == (sb (h.text)).toList) && ((h.edits == h.edits) && ((h.exact == h.exact) && ((h.lo == 0) && ((h.hi == 0) && true)))))))) (by kernel_rfl) (noth_f h)) hS79 ?_
                  refine GoH.takeV 11 (.bool (nothP h true true false)) (.bool (nothP h true true false)) (some 92) (fun W_ => by kernel_rfl) rfl hS79 ?_
                  refine GoH.takeV 12 (.bool (nothP h true true false)) (.bool (nothP h true true false)) (some 2) (fun W_ => by kernel_rfl) rfl hS79 ?_
                  refine GoH.done [2] [(2, .bool (nothP h true true false))] (by kernel_rfl) (by kernel_rfl) ?_
                  have hM80 : Mem [] w0 w76 [] := hM78.sub (cn (cn (List.Sublist.refl _)))
                  refine GoS.ret (fn := Try.f19) (v := (.bool (nothP h true true false))) Try.func19 (by kernel_rfl) ?_
                  rw [hR]
                  have hall : rightL q.l = true := by rw [← tk_all (l := q.l) (i := i) (by omega)]; exact hRt
                  have hro := right_of hall
                  rw [← he] at hro
                  exact ⟨ret_bool (by rw [hro, node_word (by omega) (by have z := h50; simpa using z) (of_decide_eq_true (by have z := h56; simpa [wordsP] using z)) (by omega), if_pos (by omega)]), hM80.sub (List.nil_sublist _)⟩
                ·
                  have h71p : ¬ ((((List.length L) : Nat) : Int) = 0) := p_ne h71
                  refine GoH.takeV 5 (.bool ((((List.length L) : Nat) : Int) == 0)) (.bool false) (some 86) (fun W_ => by kernel_rfl) (congrArg Value.bool h71) hS70 ?_
                  refine GoH.skipF 6 (some 87) (by kernel_rfl) hS70 ?_
                  refine GoH.skipF 7 (some 88) (by kernel_rfl) hS70 ?_
                  refine GoH.skipF 8 (some 89) (by kernel_rfl) hS70 ?_
                  refine GoH.skipF 9 (some 90) (by kernel_rfl) hS70 ?_
                  refine GoH.skipF 10 (some 91) (by kernel_rfl) hS70 ?_
                  refine GoH.takeV 11 (.bool false) (.bool false) (some 92) (fun W_ => by kernel_rfl) rfl hS70 ?_
                  refine GoH.takeV 12 (.bool false) (.bool false) (some 2) (fun W_ => by kernel_rfl) rfl hS70 ?_
                  refine GoH.done [2] [(2, .bool false)] (by kernel_rfl) (by kernel_rfl) ?_
                  have hM81 : Mem [] w0 w67 [] := hM69.sub (cn (cn (List.Sublist.refl _)))
                  refine GoS.ret (fn := Try.f19) (v := (.bool false)) Try.func19 (by kernel_rfl) ?_
                  rw [hR]
                  have hall : rightL q.l = true := by rw [← tk_all (l := q.l) (i := i) (by omega)]; exact hRt
                  have hro := right_of hall
                  rw [← he] at hro
                  exact ⟨ret_bool (by rw [hro, node_many (by omega) (by omega)]), hM81.sub (List.nil_sublist _)⟩
          ·
            have h35p : ¬ (h.op = 4) := p_ne h35
            refine GoS.run [1, 5, 6] [.n] _ [.code (csub (cd Try.f19) [1,1,1,1,0,1,0,1,0,1,1]), .inBlock 2, .code (csub (cd Try.f19) [1,1,1,1,1])] [(1, pq b), (5, pq b2), (6, .int .i64 0)] w30 (by kernel_rfl) .nil ?_
            have o58 : (Instr.loadAt 9 (.pointer (some (⟨b, 1, none⟩)))).run Try.prog w30 = .ok (.string (sb (h.field))) w30 := c_load pE9 (hM33.rd 1 rfl) (cel_obj b 1) rfl
            refine GoS.run [1, 5, 6, 47] [.n, .n, .n, .h (.string (sb (h.field)))] _ [.inRegion (cops (csub (cd Try.f19) [1,1,1,1,0,1,0,1,0,1,1,0])) [2,3,4,5,6,7,8], .code (csub (cd Try.f19) [1,1,1,1,0,1,0,1,0,1,1,1]), .inBlock 2, .code (csub (cd Try.f19) [1,1,1,1,1])] [(1, pq b), (5, pq b2), (6, .int .i64 0), (47, .string (sb (h.field)))] w30 (by kernel_rfl) (.cons o58 .nil) ?_
            refine GoS.call [1, 5, 6] 22 #[.string (sb (h.field))] (some 48) [.inRegion (cops (csub (cd Try.f19) [1,1,1,1,0,1,0,1,0,1,1,0])) [3,4,5,6,7,8], .code (csub (cd Try.f19) [1,1,1,1,0,1,0,1,0,1,1,1]), .inBlock 2, .code (csub (cd Try.f19) [1,1,1,1,1])] [(1, pq b), (5, pq b2), (6, .int .i64 0)] (by kernel_rfl) (name_c (h.field) (by rw [he]; omega) w30) ?_
            rintro _ _ ⟨rfl, rfl⟩
            refine ⟨_, rfl, ?_⟩
            refine GoS.run [1, 5, 6, 50] [.n, .n] _ [.inRegion (cops (csub (cd Try.f19) [1,1,1,1,0,1,0,1,0,1,1,0])) [5,6,7,8], .code (csub (cd Try.f19) [1,1,1,1,0,1,0,1,0,1,1,1]), .inBlock 2, .code (csub (cd Try.f19) [1,1,1,1,1])] [(1, pq b), (5, pq b2), (6, .int .i64 0), (50, .bool (!(nameP (h.field))))] w30 (by kernel_rfl) .nil ?_
            refine GoS.fork 50 (!(nameP (h.field))) (by kernel_rfl) (fun h59 => ?_) (fun h59 => ?_)
            ·
              refine GoS.run [1, 5, 6, 54] [.n, .n, .n, .n] _ [.inRegion (cops (csub (cd Try.f19) [1,1,1,1,0,1,0,1,0,1,1,0])) [], .code (csub (cd Try.f19) [1,1,1,1,0,1,0,1,0,1,1,1]), .inBlock 2, .code (csub (cd Try.f19) [1,1,1,1,1])] [(1, pq b), (5, pq b2), (6, .int .i64 0), (54, .bool true)] w30 (by kernel_rfl) .nil ?_
              have hM64 : Mem [] w0 w30 [] := hM33.sub (cn (cn (List.Sublist.refl _)))
              refine GoS.run [2] [.n, .n, .n, .n, .n, .n] _ [.code (csub (cd Try.f19) [1,1,1,1,0,1,0,1,0,1,1,1,0,1]), .inBlock 2, .code (csub (cd Try.f19) [1,1,1,1,1])] [(2, .bool false)] w30 (by kernel_rfl) .nil ?_
              refine GoS.ret (fn := Try.f19) (v := (.bool false)) Try.func19 (by kernel_rfl) ?_
              rw [hR]
              have hall : rightL q.l = true := by rw [← tk_all (l := q.l) (i := i) (by omega)]; exact hRt
              have hro := right_of hall
              rw [← he] at hro
              exact ⟨ret_bool (by rw [hro, node_name (by omega) (by have z := h59; simpa using z)]), hM64.sub (List.nil_sublist _)⟩
            ·
              have o60 : (Instr.loadAt 25 (pq b)).run Try.prog w30 = .ok ((qA h v)) w30 := c_loads (ys := (qR h v)) aE25 (hM33.rd 1 rfl) (cel_obj b 0) rfl (by intro j u hj; match j, hj with | 0, hj => exact hj | 1, hj => exact hj | 2, hj => exact hj | 3, hj => exact hj | 4, hj => exact hj | 5, hj => exact hj | 6, hj => exact hj | 7, hj => exact hj | n + 8, hj => cases hj)
              refine GoS.run [1, 5, 6, 50, 51] [.h ((qA h v))] _ [.inRegion (cops (csub (cd Try.f19) [1,1,1,1,0,1,0,1,0,1,1,0])) [6,7,8], .code (csub (cd Try.f19) [1,1,1,1,0,1,0,1,0,1,1,1]), .inBlock 2, .code (csub (cd Try.f19) [1,1,1,1,1])] [(1, pq b), (5, pq b2), (6, .int .i64 0), (50, .bool false), (51, (qA h v))] w30 (by kernel_rfl) (.cons o60 .nil) ?_
              refine GoS.call [1, 5, 6, 50] 23 #[(qA h v)] (some 52) [.inRegion (cops (csub (cd Try.f19) [1,1,1,1,0,1,0,1,0,1,1,0])) [7,8], .code (csub (cd Try.f19) [1,1,1,1,0,1,0,1,0,1,1,1]), .inBlock 2, .code (csub (cd Try.f19) [1,1,1,1,1])] [(1, pq b), (5, pq b2), (6, .int .i64 0), (50, .bool false)] (by kernel_rfl) (words_c q h he v (hq.kept hM33.kept) (by omega)) ?_
              rintro _ w61 ⟨rfl, m62⟩
              refine ⟨_, rfl, ?_⟩
              have hM63 : Mem [] w0 w61 [⟨25, 8, (obj b2), 1, [.int .i64 (h.op), .string (sb (h.field)), .string (sb (h.text)), .int .i64 0, .int .i64 0, .int .u64 0, .int .u64 0, v]⟩, ⟨25, 8, (obj b), 1, (qR h v)⟩] := Mem.join (R := []) hM33 m62
              refine GoS.run [1, 5, 6, 54] [.n, .n] _ [.inRegion (cops (csub (cd Try.f19) [1,1,1,1,0,1,0,1,0,1,1,0])) [], .code (csub (cd Try.f19) [1,1,1,1,0,1,0,1,0,1,1,1]), .inBlock 2, .code (csub (cd Try.f19) [1,1,1,1,1])] [(1, pq b), (5, pq b2), (6, .int .i64 0), (54, .bool (!(wordsP h)))] w61 (by kernel_rfl) .nil ?_
              refine GoS.run [1, 5, 6, 54] [.n] _ [.code (csub (cd Try.f19) [1,1,1,1,0,1,0,1,0,1,1,1]), .inBlock 2, .code (csub (cd Try.f19) [1,1,1,1,1])] [(1, pq b), (5, pq b2), (6, .int .i64 0), (54, .bool (!(wordsP h)))] w61 (by kernel_rfl) .nil ?_
              refine GoS.cond (!(wordsP h)) [.code (csub (cd Try.f19) [1,1,1,1,0,1,0,1,0,1,1,1,0]), .inBlock 2, .code (csub (cd Try.f19) [1,1,1,1,1])] [.code (csub (cd Try.f19) [1,1,1,1,0,1,0,1,0,1,1,1,1]), .inBlock 2, .code (csub (cd Try.f19) [1,1,1,1,1])] (by kernel_rfl) (fun h65 => ?_) (fun h65 => ?_)
              ·
                have hM66 : Mem [] w0 w61 [] := hM63.sub (cn (cn (List.Sublist.refl _)))
                refine GoS.run [2] [.n, .n, .n, .n] _ [.code (csub (cd Try.f19) [1,1,1,1,0,1,0,1,0,1,1,1,0,1]), .inBlock 2, .code (csub (cd Try.f19) [1,1,1,1,1])] [(2, .bool false)] w61 (by kernel_rfl) .nil ?_
                refine GoS.ret (fn := Try.f19) (v := (.bool false)) Try.func19 (by kernel_rfl) ?_
                rw [hR]
                have hall : rightL q.l = true := by rw [← tk_all (l := q.l) (i := i) (by omega)]; exact hRt
                have hro := right_of hall
                rw [← he] at hro
                exact ⟨ret_bool (by rw [hro, node_noword (by omega) (of_decide_eq_false (by have z := h65; simpa [wordsP] using z))]), hM66.sub (List.nil_sublist _)⟩
              ·
                refine GoS.run [1, 5, 6] [.n] _ [.inBlock 2, .code (csub (cd Try.f19) [1,1,1,1,1])] [(1, pq b), (5, pq b2), (6, .int .i64 0)] w61 (by kernel_rfl) .nil ?_
                refine GoS.run [1, 5, 6] [.n, .n] _ [.code (csub (cd Try.f19) [1,1,1,1,1,0]), .code (csub (cd Try.f19) [1,1,1,1,1,1])] [(1, pq b), (5, pq b2), (6, .int .i64 0)] w61 (by kernel_rfl) .nil ?_
                obtain ⟨w82, hw83⟩ : ∃ w_, (w61).drewN 1 = w_ := ⟨_, rfl⟩
                refine GoS.held (fun W_ => Mem [] w0 W_ [⟨25, 8, (obj b2), 1, [.int .i64 (h.op), .string (sb (h.field)), .string (sb (h.text)), .int .i64 0, .int .i64 0, .int .u64 0, .int .u64 0, v]⟩, ⟨25, 8, (obj b), 1, (qR h v)⟩]) [] 31 (by kernel_rfl) (by kernel_rfl) 13 (by kernel_rfl) ?_
                rw [hw83]
                have hM84 : Mem [] w0 w82 [⟨25, 8, (obj b2), 1, [.int .i64 (h.op), .string (sb (h.field)), .string (sb (h.text)), .int .i64 0, .int .i64 0, .int .u64 0, .int .u64 0, v]⟩, ⟨25, 8, (obj b), 1, (qR h v)⟩] := hw83 ▸ hM63.ext (Kept.drewN _ _ 1)
                have hS85 : Mem [] w0 w82 [⟨25, 8, (obj b2), 1, [.int .i64 (h.op), .string (sb (h.field)), .string (sb (h.text)), .int .i64 0, .int .i64 0, .int .u64 0, .int .u64 0, v]⟩, ⟨25, 8, (obj b), 1, (qR h v)⟩] := hM84.sub (cc (cc (List.Sublist.refl _)))
                refine GoH.takeV 0 (.pointer (some (⟨b, 7, none⟩))) (.pointer (some (⟨b, 7, none⟩))) (some 81) (fun W_ => by kernel_rfl) rfl hS85 ?_
                refine GoH.takeF 1 (v) (fun W_ => (Instr.loadAt 23 (.pointer (some (⟨b, 7, none⟩)))).run Try.prog W_ = .ok (v) W_) (some 82) (fun W_ => by kernel_rfl) (fun W_ hW_ => c_load pE23 (hW_.rd 1 rfl) (cel_obj b 7) rfl) hS85 ?_
                refine GoH.takeF 2 (.int .i64 (((List.length L) : Nat) : Int)) (fun W_ => (Builtin.len_ #[23] 3 #[v]).run Try.prog W_ = .ok (.int .i64 (((List.length L) : Nat) : Int)) W_) (some 83) (fun W_ => by kernel_rfl) (fun W_ hW_ => f_slen sT23 (hr.kept0 hW_.kept) 3 _) hS85 ?_
                refine GoH.takeV 3 (.int .i64 0) (.int .i64 0) (some 84) (fun W_ => by kernel_rfl) rfl hS85 ?_
                refine GoH.takeV 4 (.bool ((((List.length L) : Nat) : Int) == 0)) (.bool ((((List.length L) : Nat) : Int) == 0)) (some 85) (fun W_ => by kernel_rfl) rfl hS85 ?_
                rcases Bool.eq_false_or_eq_true ((((List.length L) : Nat) : Int) == 0) with h86 | h86
                ·
                  have h86p : (((List.length L) : Nat) : Int) = 0 := eq_of_beq h86
                  refine GoH.takeV 5 (.bool ((((List.length L) : Nat) : Int) == 0)) (.bool true) (some 86) (fun W_ => by kernel_rfl) (congrArg Value.bool h86) hS85 ?_
                  refine GoH.takeF 6 ((qA h v)) (fun W_ => (Instr.loadAt 25 (pq b)).run Try.prog W_ = .ok ((qA h v)) W_) (some 87) (fun W_ => by kernel_rfl) (fun W_ hW_ => c_loads (ys := (qR h v)) aE25 (hW_.rd 1 rfl) (cel_obj b 0) rfl (by intro j u hj; match j, hj with | 0, hj => exact hj | 1, hj => exact hj | 2, hj => exact hj | 3, hj => exact hj | 4, hj => exact hj | 5, hj => exact hj | 6, hj => exact hj | 7, hj => exact hj | n + 8, hj => cases hj)) hS85 ?_
                  refine GoH.takeF 8 (.agg #[.int .i64 (h.op), .string (sb (h.field)), .string (sb (h.text)), .int .i64 0, .int .i64 0, .int .u64 0, .int .u64 0, v]) (fun W_ => (Instr.loadAt 25 (pq b2)).run Try.prog W_ = .ok (.agg #[.int .i64 (h.op), .string (sb (h.field)), .string (sb (h.text)), .int .i64 0, .int .i64 0, .int .u64 0, .int .u64 0, v]) W_) (some 89) (fun W_ => by kernel_rfl) (fun W_ hW_ => c_loads (ys := [.int .i64 (h.op), .string (sb (h.field)), .string (sb (h.text)), .int .i64 0, .int .i64 0, .int .u64 0, .int .u64 0, v]) aE25 (hW_.rd 0 rfl) (cel_obj b2 0) rfl (by intro j u hj; match j, hj with | 0, hj => exact hj | 1, hj => exact hj | 2, hj => exact hj | 3, hj => exact hj | 4, hj => exact hj | 5, hj => exact hj | 6, hj => exact hj | 7, hj => exact hj | n + 8, hj => cases hj)) hS85 ?_
                  refine GoH.callF 7 21 #[(qA h v)] (some 88) (by kernel_rfl) (flat_c (w := w82) h v) ?_
                  rintro _ w87 ⟨rfl, m88⟩
                  have hM89 : Mem [] w0 w87 [⟨25, 8, (obj b2), 1, [.int .i64 (h.op), .string (sb (h.field)), .string (sb (h.text)), .int .i64 0, .int .i64 0, .int .u64 0, .int .u64 0, v]⟩, ⟨25, 8, (obj b), 1, (qR h v)⟩] := Mem.join (R := []) hM84 m88
                  have hS90 : Mem [] w0 w87 [⟨25, 8, (obj b2), 1, [.int .i64 (h.op), .string (sb (h.field)), .string (sb (h.text)), .int .i64 0, .int .i64 0, .int .u64 0, .int .u64 0, v]⟩, ⟨25, 8, (obj b), 1, (qR h v)⟩] := hM89.sub (cc (cc (List.Sublist.refl _)))
                  refine ⟨(qH h), rfl, .inr hS90, ?_⟩
                  refine GoH.callF 9 21 #[.agg #[.int .i64 (h.op), .string (sb (h.field)), .string (sb (h.text)), .int .i64 0, .int .i64 0, .int .u64 0, .int .u64 0, v]] (some 90) (by kernel_rfl) (flat_c (w := w87) (Hd.mk (h.op) (h.field) (h.text) 0 0 0 0) v) ?_
                  rintro _ w91 ⟨rfl, m92⟩
                  have hM93 : Mem [] w0 w91 [⟨25, 8, (obj b2), 1, [.int .i64 (h.op), .string (sb (h.field)), .string (sb (h.text)), .int .i64 0, .int .i64 0, .int .u64 0, .int .u64 0, v]⟩, ⟨25, 8, (obj b), 1, (qR h v)⟩] := Mem.join (R := []) hM89 m92
                  have hS94 : Mem [] w0 w91 [⟨25, 8, (obj b2), 1, [.int .i64 (h.op), .string (sb (h.field)), .string (sb (h.text)), .int .i64 0, .int .i64 0, .int .u64 0, .int .u64 0, v]⟩, ⟨25, 8, (obj b), 1, (qR h v)⟩] := hM93.sub (cc (cc (List.Sublist.refl _)))
                  refine ⟨.agg #[.int .i64 (h.op), .string (sb (h.field)), .string (sb (h.text)), .int .i64 0, .int .i64 0, .int .u64 0, .int .u64 0], rfl, .inr hS94, ?_⟩
                  refine GoH.takeF 10 (.bool (nothP h true false false)) (fun W_ => Try.prog.eqGuardType Try.prog.depth 38 = false ∧ (binOp .eql 38 ((qH h)) (.agg #[.int .i64 (h.op), .string (sb (h.field)), .string (sb (h.text)), .int .i64 0, .int .i64 0, .int .u64 0, .int .u64 0])).run Try.prog W_ = .ok (.bool (nothP h true false false)) W_) (some 91) (fun W_ => by kernel_rfl) (fun W_ hW_ => f_ageq eT38 (xs := [.int .i64 (h.op), .string (sb (h.field)), .string (sb (h.text)), .int .i64 (h.edits), .int .i64 (h.exact), .int .u64 (h.lo), .int .u64 (h.hi)]) (ys := [.int .i64 (h.op), .string (sb (h.field)), .string (sb (h.text)), .int .i64 0, .int .i64 0, .int .u64 0, .int .u64 0]) (r := ((h.op == h.op) && (((sb (h.field)).toList == (sb (h.field)).toList) && (((sb (h.text)).toList == (sb (h.text)).toList) && ((h.edits == 0) && ((h.exact == 0) && ((h.lo == 0) && ((h.hi == 0) && true)))))))) (by kernel_rfl) (noth_t h)) hS94 ?_
                  refine GoH.takeV 11 (.bool (nothP h true false false)) (.bool (nothP h true false false)) (some 92) (fun W_ => by kernel_rfl) rfl hS94 ?_
                  refine GoH.takeV 12 (.bool (nothP h true false false)) (.bool (nothP h true false false)) (some 2) (fun W_ => by kernel_rfl) rfl hS94 ?_
                  refine GoH.done [2] [(2, .bool (nothP h true false false))] (by kernel_rfl) (by kernel_rfl) ?_
                  have hM95 : Mem [] w0 w91 [] := hM93.sub (cn (cn (List.Sublist.refl _)))
                  refine GoS.ret (fn := Try.f19) (v := (.bool (nothP h true false false))) Try.func19 (by kernel_rfl) ?_
                  rw [hR]
                  have hall : rightL q.l = true := by rw [← tk_all (l := q.l) (i := i) (by omega)]; exact hRt
                  have hro := right_of hall
                  rw [← he] at hro
                  exact ⟨ret_bool (by rw [hro, node_word (by omega) (by have z := h59; simpa using z) (of_decide_eq_true (by have z := h65; simpa [wordsP] using z)) (by omega), if_neg (by omega)]), hM95.sub (List.nil_sublist _)⟩
                ·
                  have h86p : ¬ ((((List.length L) : Nat) : Int) = 0) := p_ne h86
                  refine GoH.takeV 5 (.bool ((((List.length L) : Nat) : Int) == 0)) (.bool false) (some 86) (fun W_ => by kernel_rfl) (congrArg Value.bool h86) hS85 ?_
                  refine GoH.skipF 6 (some 87) (by kernel_rfl) hS85 ?_
                  refine GoH.skipF 7 (some 88) (by kernel_rfl) hS85 ?_
                  refine GoH.skipF 8 (some 89) (by kernel_rfl) hS85 ?_
                  refine GoH.skipF 9 (some 90) (by kernel_rfl) hS85 ?_
                  refine GoH.skipF 10 (some 91) (by kernel_rfl) hS85 ?_
                  refine GoH.takeV 11 (.bool false) (.bool false) (some 92) (fun W_ => by kernel_rfl) rfl hS85 ?_
                  refine GoH.takeV 12 (.bool false) (.bool false) (some 2) (fun W_ => by kernel_rfl) rfl hS85 ?_
                  refine GoH.done [2] [(2, .bool false)] (by kernel_rfl) (by kernel_rfl) ?_
                  have hM96 : Mem [] w0 w82 [] := hM84.sub (cn (cn (List.Sublist.refl _)))
                  refine GoS.ret (fn := Try.f19) (v := (.bool false)) Try.func19 (by kernel_rfl) ?_
                  rw [hR]
                  have hall : rightL q.l = true := by rw [← tk_all (l := q.l) (i := i) (by omega)]; exact hRt
                  have hro := right_of hall
                  rw [← he] at hro
                  exact ⟨ret_bool (by rw [hro, node_many (by omega) (by omega)]), hM96.sub (List.nil_sublist _)⟩
        ·
          rw [h16] at h20; cases h20
      ·
        have h16p : ¬ (h.op = 1) := p_ne h16
        refine GoS.run [1, 5, 6, 24, 25] [.n, .n, .n, .n, .n] _ [.code (csub (cd Try.f19) [1,1,1,1,0,1,0,0,1,1,1]), .code (csub (cd Try.f19) [1,1,1,1,0,1,0,1]), .inBlock 2, .code (csub (cd Try.f19) [1,1,1,1,1])] [(1, pq b), (5, pq b2), (6, .int .i64 0), (24, .int .i64 (h.op)), (25, .bool (h.op == 2))] w7 (by kernel_rfl) .nil ?_
        refine GoS.cond (h.op == 2) [.code (csub (cd Try.f19) [1,1,1,1,0,1,0,0,1,1,1,0]), .code (csub (cd Try.f19) [1,1,1,1,0,1,0,1]), .inBlock 2, .code (csub (cd Try.f19) [1,1,1,1,1])] [.code (csub (cd Try.f19) [1,1,1,1,0,1,0,0,1,1,1,1]), .code (csub (cd Try.f19) [1,1,1,1,0,1,0,1]), .inBlock 2, .code (csub (cd Try.f19) [1,1,1,1,1])] (by kernel_rfl) (fun h17 => ?_) (fun h17 => ?_)
        ·
          have h17p : h.op = 2 := eq_of_beq h17
          refine GoS.run [1, 5, 6, 24, 25] [.n] _ [.code (csub (cd Try.f19) [1,1,1,1,0,1,0,1]), .inBlock 2, .code (csub (cd Try.f19) [1,1,1,1,1])] [(1, pq b), (5, pq b2), (6, .int .i64 0), (24, .int .i64 (h.op)), (25, .bool (h.op == 2))] w7 (by kernel_rfl) .nil ?_
          refine GoS.cond (h.op == 2) [.code (csub (cd Try.f19) [1,1,1,1,0,1,0,1,0]), .inBlock 2, .code (csub (cd Try.f19) [1,1,1,1,1])] [.code (csub (cd Try.f19) [1,1,1,1,0,1,0,1,1]), .inBlock 2, .code (csub (cd Try.f19) [1,1,1,1,1])] (by kernel_rfl) (fun h97 => ?_) (fun h97 => ?_)
          ·
            have h97p : h.op = 2 := eq_of_beq h97
            refine GoS.run [1, 5, 6] [.n] _ [.code (csub (cd Try.f19) [1,1,1,1,0,1,0,1,0,0]), .code (csub (cd Try.f19) [1,1,1,1,0,1,0,1,0,1]), .inBlock 2, .code (csub (cd Try.f19) [1,1,1,1,1])] [(1, pq b), (5, pq b2), (6, .int .i64 0)] w7 (by kernel_rfl) .nil ?_
            obtain ⟨w98, hw99⟩ : ∃ w_, (w7).drewN 1 = w_ := ⟨_, rfl⟩
            refine GoS.held (fun W_ => Mem [] w0 W_ [⟨25, 8, (obj b), 1, (qR h v)⟩]) [7] 16 (by kernel_rfl) (by kernel_rfl) 8 (by kernel_rfl) ?_
            rw [hw99]
            have hM100 : Mem [] w0 w98 [⟨25, 8, (obj b2), 1, [.int .i64 (h.op), .string (sb ([])), .string (sb ([])), .int .i64 0, .int .i64 0, .int .u64 0, .int .u64 0, v]⟩, ⟨25, 8, (obj b), 1, (qR h v)⟩] := hw99 ▸ hM10.ext (Kept.drewN _ _ 1)
            have hS101 : Mem [] w0 w98 [⟨25, 8, (obj b), 1, (qR h v)⟩] := hM100.sub (cn (cc (List.Sublist.refl _)))
            refine GoH.takeV 0 (.pointer (some (⟨b, 1, none⟩))) (.pointer (some (⟨b, 1, none⟩))) (some 31) (fun W_ => by kernel_rfl) rfl hS101 ?_
            refine GoH.takeF 1 (.string (sb (h.field))) (fun W_ => (Instr.loadAt 9 (.pointer (some (⟨b, 1, none⟩)))).run Try.prog W_ = .ok (.string (sb (h.field))) W_) (some 32) (fun W_ => by kernel_rfl) (fun W_ hW_ => c_load pE9 (hW_.rd 0 rfl) (cel_obj b 1) rfl) hS101 ?_
            refine GoH.takeV 2 (.pointer (some (⟨b, 2, none⟩))) (.pointer (some (⟨b, 2, none⟩))) (some 33) (fun W_ => by kernel_rfl) rfl hS101 ?_
            refine GoH.takeF 3 (.string (sb (h.text))) (fun W_ => (Instr.loadAt 9 (.pointer (some (⟨b, 2, none⟩)))).run Try.prog W_ = .ok (.string (sb (h.text))) W_) (some 34) (fun W_ => by kernel_rfl) (fun W_ hW_ => c_load pE9 (hW_.rd 0 rfl) (cel_obj b 2) rfl) hS101 ?_
            refine GoH.takeV 4 (.pointer (some (⟨b2, 1, none⟩))) (.pointer (some (⟨b2, 1, none⟩))) (some 35) (fun W_ => by kernel_rfl) rfl hS101 ?_
            obtain ⟨w102, hr103, hM104⟩ := c_store (u := .string (sb (h.field))) (by kernel_rfl) hM100 0 rfl (cel_obj b2 1) (by decide) rfl rfl
            have hM105 : Mem [] w0 w102 [⟨25, 8, (obj b2), 1, [.int .i64 (h.op), .string (sb (h.field)), .string (sb ([])), .int .i64 0, .int .i64 0, .int .u64 0, .int .u64 0, v]⟩, ⟨25, 8, (obj b), 1, (qR h v)⟩] := hM104
            have hS106 : Mem [] w0 w102 [⟨25, 8, (obj b), 1, (qR h v)⟩] := hM105.sub (cn (cc (List.Sublist.refl _)))
            refine GoH.stepF 5 (undef) (w102) ((Instr.storeAt 9 (.pointer (some (⟨b2, 1, none⟩))) (.string (sb (h.field)))).run Try.prog w98 = .ok () w102 ∧ undef = undef) none (by kernel_rfl) (⟨hr103, rfl⟩) (.inr hS106) ?_
            refine GoH.takeV 6 (.pointer (some (⟨b2, 2, none⟩))) (.pointer (some (⟨b2, 2, none⟩))) (some 36) (fun W_ => by kernel_rfl) rfl hS106 ?_
            obtain ⟨w107, hr108, hM109⟩ := c_store (u := .string (sb (h.text))) (by kernel_rfl) hM105 0 rfl (cel_obj b2 2) (by decide) rfl rfl
            have hM110 : Mem [] w0 w107 [⟨25, 8, (obj b2), 1, [.int .i64 (h.op), .string (sb (h.field)), .string (sb (h.text)), .int .i64 0, .int .i64 0, .int .u64 0, .int .u64 0, v]⟩, ⟨25, 8, (obj b), 1, (qR h v)⟩] := hM109
            refine GoH.stepF 7 (undef) (w107) ((Instr.storeAt 9 (.pointer (some (⟨b2, 2, none⟩))) (.string (sb (h.text)))).run Try.prog w102 = .ok () w107 ∧ undef = undef) none (by kernel_rfl) (⟨hr108, rfl⟩) (.inl rfl) ?_
            refine GoH.done [1, 5, 6] [(1, pq b), (5, pq b2), (6, .int .i64 0)] (by kernel_rfl) (by kernel_rfl) ?_
            have o111 : (Instr.loadAt 3 (pq b)).run Try.prog w107 = .ok (.int .i64 (h.op)) w107 := c_load pE3 (hM110.rd 1 rfl) (cel_obj b 0) rfl
            refine GoS.run [1, 5, 6, 39] [.n, .n, .n, .n, .h (.int .i64 (h.op)), .n, .n] _ [.code (csub (cd Try.f19) [1,1,1,1,0,1,0,1,0,1,0,1]), .code (csub (cd Try.f19) [1,1,1,1,0,1,0,1,0,1,1]), .inBlock 2, .code (csub (cd Try.f19) [1,1,1,1,1])] [(1, pq b), (5, pq b2), (6, .int .i64 0), (39, .bool (h.op == 4))] w107 (by kernel_rfl) (.cons o111 .nil) ?_
            refine GoS.cond (h.op == 4) [.code (csub (cd Try.f19) [1,1,1,1,0,1,0,1,0,1,0,1,0]), .code (csub (cd Try.f19) [1,1,1,1,0,1,0,1,0,1,1]), .inBlock 2, .code (csub (cd Try.f19) [1,1,1,1,1])] [.code (csub (cd Try.f19) [1,1,1,1,0,1,0,1,0,1,0,1,1]), .code (csub (cd Try.f19) [1,1,1,1,0,1,0,1,0,1,1]), .inBlock 2, .code (csub (cd Try.f19) [1,1,1,1,1])] (by kernel_rfl) (fun h112 => ?_) (fun h112 => ?_)
            ·
              have h112p : h.op = 4 := eq_of_beq h112
              obtain ⟨w113, hw114⟩ : ∃ w_, (w107).drewN 1 = w_ := ⟨_, rfl⟩
              refine GoS.held (fun W_ => Mem [] w0 W_ [⟨25, 8, (obj b), 1, (qR h v)⟩]) [7] 18 (by kernel_rfl) (by kernel_rfl) 8 (by kernel_rfl) ?_
              rw [hw114]
              have hM115 : Mem [] w0 w113 [⟨25, 8, (obj b2), 1, [.int .i64 (h.op), .string (sb (h.field)), .string (sb (h.text)), .int .i64 0, .int .i64 0, .int .u64 0, .int .u64 0, v]⟩, ⟨25, 8, (obj b), 1, (qR h v)⟩] := hw114 ▸ hM110.ext (Kept.drewN _ _ 1)
              have hS116 : Mem [] w0 w113 [⟨25, 8, (obj b), 1, (qR h v)⟩] := hM115.sub (cn (cc (List.Sublist.refl _)))
              refine GoH.takeV 0 (.pointer (some (⟨b, 3, none⟩))) (.pointer (some (⟨b, 3, none⟩))) (some 40) (fun W_ => by kernel_rfl) rfl hS116 ?_
              refine GoH.takeF 1 (.int .i64 (h.edits)) (fun W_ => (Instr.loadAt 3 (.pointer (some (⟨b, 3, none⟩)))).run Try.prog W_ = .ok (.int .i64 (h.edits)) W_) (some 41) (fun W_ => by kernel_rfl) (fun W_ hW_ => c_load pE3 (hW_.rd 0 rfl) (cel_obj b 3) rfl) hS116 ?_
              refine GoH.takeV 2 (.pointer (some (⟨b, 4, none⟩))) (.pointer (some (⟨b, 4, none⟩))) (some 42) (fun W_ => by kernel_rfl) rfl hS116 ?_
              refine GoH.takeF 3 (.int .i64 (h.exact)) (fun W_ => (Instr.loadAt 3 (.pointer (some (⟨b, 4, none⟩)))).run Try.prog W_ = .ok (.int .i64 (h.exact)) W_) (some 43) (fun W_ => by kernel_rfl) (fun W_ hW_ => c_load pE3 (hW_.rd 0 rfl) (cel_obj b 4) rfl) hS116 ?_
              refine GoH.takeV 4 (.pointer (some (⟨b2, 3, none⟩))) (.pointer (some (⟨b2, 3, none⟩))) (some 44) (fun W_ => by kernel_rfl) rfl hS116 ?_
              obtain ⟨w117, hr118, hM119⟩ := c_store (u := .int .i64 (h.edits)) (by kernel_rfl) hM115 0 rfl (cel_obj b2 3) (by decide) rfl rfl
              have hM120 : Mem [] w0 w117 [⟨25, 8, (obj b2), 1, [.int .i64 (h.op), .string (sb (h.field)), .string (sb (h.text)), .int .i64 (h.edits), .int .i64 0, .int .u64 0, .int .u64 0, v]⟩, ⟨25, 8, (obj b), 1, (qR h v)⟩] := hM119
              have hS121 : Mem [] w0 w117 [⟨25, 8, (obj b), 1, (qR h v)⟩] := hM120.sub (cn (cc (List.Sublist.refl _)))
              refine GoH.stepF 5 (undef) (w117) ((Instr.storeAt 3 (.pointer (some (⟨b2, 3, none⟩))) (.int .i64 (h.edits))).run Try.prog w113 = .ok () w117 ∧ undef = undef) none (by kernel_rfl) (⟨hr118, rfl⟩) (.inr hS121) ?_
              refine GoH.takeV 6 (.pointer (some (⟨b2, 4, none⟩))) (.pointer (some (⟨b2, 4, none⟩))) (some 45) (fun W_ => by kernel_rfl) rfl hS121 ?_
              obtain ⟨w122, hr123, hM124⟩ := c_store (u := .int .i64 (h.exact)) (by kernel_rfl) hM120 0 rfl (cel_obj b2 4) (by decide) rfl rfl
              have hM125 : Mem [] w0 w122 [⟨25, 8, (obj b2), 1, [.int .i64 (h.op), .string (sb (h.field)), .string (sb (h.text)), .int .i64 (h.edits), .int .i64 (h.exact), .int .u64 0, .int .u64 0, v]⟩, ⟨25, 8, (obj b), 1, (qR h v)⟩] := hM124
              refine GoH.stepF 7 (undef) (w122) ((Instr.storeAt 3 (.pointer (some (⟨b2, 4, none⟩))) (.int .i64 (h.exact))).run Try.prog w117 = .ok () w122 ∧ undef = undef) none (by kernel_rfl) (⟨hr123, rfl⟩) (.inl rfl) ?_
              refine GoH.done [1, 5, 6] [(1, pq b), (5, pq b2), (6, .int .i64 0)] (by kernel_rfl) (by kernel_rfl) ?_
              have o126 : (Instr.loadAt 9 (.pointer (some (⟨b, 1, none⟩)))).run Try.prog w122 = .ok (.string (sb (h.field))) w122 := c_load pE9 (hM125.rd 1 rfl) (cel_obj b 1) rfl
              refine GoS.run [1, 5, 6, 47] [.n, .n, .n, .h (.string (sb (h.field)))] _ [.inRegion (cops (csub (cd Try.f19) [1,1,1,1,0,1,0,1,0,1,1,0])) [2,3,4,5,6,7,8], .code (csub (cd Try.f19) [1,1,1,1,0,1,0,1,0,1,1,1]), .inBlock 2, .code (csub (cd Try.f19) [1,1,1,1,1])] [(1, pq b), (5, pq b2), (6, .int .i64 0), (47, .string (sb (h.field)))] w122 (by kernel_rfl) (.cons o126 .nil) ?_
              refine GoS.call [1, 5, 6] 22 #[.string (sb (h.field))] (some 48) [.inRegion (cops (csub (cd Try.f19) [1,1,1,1,0,1,0,1,0,1,1,0])) [3,4,5,6,7,8], .code (csub (cd Try.f19) [1,1,1,1,0,1,0,1,0,1,1,1]), .inBlock 2, .code (csub (cd Try.f19) [1,1,1,1,1])] [(1, pq b), (5, pq b2), (6, .int .i64 0)] (by kernel_rfl) (name_c (h.field) (by rw [he]; omega) w122) ?_
              rintro _ _ ⟨rfl, rfl⟩
              refine ⟨_, rfl, ?_⟩
              refine GoS.run [1, 5, 6, 50] [.n, .n] _ [.inRegion (cops (csub (cd Try.f19) [1,1,1,1,0,1,0,1,0,1,1,0])) [5,6,7,8], .code (csub (cd Try.f19) [1,1,1,1,0,1,0,1,0,1,1,1]), .inBlock 2, .code (csub (cd Try.f19) [1,1,1,1,1])] [(1, pq b), (5, pq b2), (6, .int .i64 0), (50, .bool (!(nameP (h.field))))] w122 (by kernel_rfl) .nil ?_
              refine GoS.fork 50 (!(nameP (h.field))) (by kernel_rfl) (fun h127 => ?_) (fun h127 => ?_)
              ·
                refine GoS.run [1, 5, 6, 54] [.n, .n, .n, .n] _ [.inRegion (cops (csub (cd Try.f19) [1,1,1,1,0,1,0,1,0,1,1,0])) [], .code (csub (cd Try.f19) [1,1,1,1,0,1,0,1,0,1,1,1]), .inBlock 2, .code (csub (cd Try.f19) [1,1,1,1,1])] [(1, pq b), (5, pq b2), (6, .int .i64 0), (54, .bool true)] w122 (by kernel_rfl) .nil ?_
                have hM132 : Mem [] w0 w122 [] := hM125.sub (cn (cn (List.Sublist.refl _)))
                refine GoS.run [2] [.n, .n, .n, .n, .n, .n] _ [.code (csub (cd Try.f19) [1,1,1,1,0,1,0,1,0,1,1,1,0,1]), .inBlock 2, .code (csub (cd Try.f19) [1,1,1,1,1])] [(2, .bool false)] w122 (by kernel_rfl) .nil ?_
                refine GoS.ret (fn := Try.f19) (v := (.bool false)) Try.func19 (by kernel_rfl) ?_
                rw [hR]
                have hall : rightL q.l = true := by rw [← tk_all (l := q.l) (i := i) (by omega)]; exact hRt
                have hro := right_of hall
                rw [← he] at hro
                exact ⟨ret_bool (by rw [hro, node_name (by omega) (by have z := h127; simpa using z)]), hM132.sub (List.nil_sublist _)⟩
              ·
                have o128 : (Instr.loadAt 25 (pq b)).run Try.prog w122 = .ok ((qA h v)) w122 := c_loads (ys := (qR h v)) aE25 (hM125.rd 1 rfl) (cel_obj b 0) rfl (by intro j u hj; match j, hj with | 0, hj => exact hj | 1, hj => exact hj | 2, hj => exact hj | 3, hj => exact hj | 4, hj => exact hj | 5, hj => exact hj | 6, hj => exact hj | 7, hj => exact hj | n + 8, hj => cases hj)
                refine GoS.run [1, 5, 6, 50, 51] [.h ((qA h v))] _ [.inRegion (cops (csub (cd Try.f19) [1,1,1,1,0,1,0,1,0,1,1,0])) [6,7,8], .code (csub (cd Try.f19) [1,1,1,1,0,1,0,1,0,1,1,1]), .inBlock 2, .code (csub (cd Try.f19) [1,1,1,1,1])] [(1, pq b), (5, pq b2), (6, .int .i64 0), (50, .bool false), (51, (qA h v))] w122 (by kernel_rfl) (.cons o128 .nil) ?_
                refine GoS.call [1, 5, 6, 50] 23 #[(qA h v)] (some 52) [.inRegion (cops (csub (cd Try.f19) [1,1,1,1,0,1,0,1,0,1,1,0])) [7,8], .code (csub (cd Try.f19) [1,1,1,1,0,1,0,1,0,1,1,1]), .inBlock 2, .code (csub (cd Try.f19) [1,1,1,1,1])] [(1, pq b), (5, pq b2), (6, .int .i64 0), (50, .bool false)] (by kernel_rfl) (words_c q h he v (hq.kept hM125.kept) (by omega)) ?_
                rintro _ w129 ⟨rfl, m130⟩
                refine ⟨_, rfl, ?_⟩
                have hM131 : Mem [] w0 w129 [⟨25, 8, (obj b2), 1, [.int .i64 (h.op), .string (sb (h.field)), .string (sb (h.text)), .int .i64 (h.edits), .int .i64 (h.exact), .int .u64 0, .int .u64 0, v]⟩, ⟨25, 8, (obj b), 1, (qR h v)⟩] := Mem.join (R := []) hM125 m130
                refine GoS.run [1, 5, 6, 54] [.n, .n] _ [.inRegion (cops (csub (cd Try.f19) [1,1,1,1,0,1,0,1,0,1,1,0])) [], .code (csub (cd Try.f19) [1,1,1,1,0,1,0,1,0,1,1,1]), .inBlock 2, .code (csub (cd Try.f19) [1,1,1,1,1])] [(1, pq b), (5, pq b2), (6, .int .i64 0), (54, .bool (!(wordsP h)))] w129 (by kernel_rfl) .nil ?_
                refine GoS.run [1, 5, 6, 54] [.n] _ [.code (csub (cd Try.f19) [1,1,1,1,0,1,0,1,0,1,1,1]), .inBlock 2, .code (csub (cd Try.f19) [1,1,1,1,1])] [(1, pq b), (5, pq b2), (6, .int .i64 0), (54, .bool (!(wordsP h)))] w129 (by kernel_rfl) .nil ?_
                refine GoS.cond (!(wordsP h)) [.code (csub (cd Try.f19) [1,1,1,1,0,1,0,1,0,1,1,1,0]), .inBlock 2, .code (csub (cd Try.f19) [1,1,1,1,1])] [.code (csub (cd Try.f19) [1,1,1,1,0,1,0,1,0,1,1,1,1]), .inBlock 2, .code (csub (cd Try.f19) [1,1,1,1,1])] (by kernel_rfl) (fun h133 => ?_) (fun h133 => ?_)
                ·
                  have hM134 : Mem [] w0 w129 [] := hM131.sub (cn (cn (List.Sublist.refl _)))
                  refine GoS.run [2] [.n, .n, .n, .n] _ [.code (csub (cd Try.f19) [1,1,1,1,0,1,0,1,0,1,1,1,0,1]), .inBlock 2, .code (csub (cd Try.f19) [1,1,1,1,1])] [(2, .bool false)] w129 (by kernel_rfl) .nil ?_
                  refine GoS.ret (fn := Try.f19) (v := (.bool false)) Try.func19 (by kernel_rfl) ?_
                  rw [hR]
                  have hall : rightL q.l = true := by rw [← tk_all (l := q.l) (i := i) (by omega)]; exact hRt
                  have hro := right_of hall
                  rw [← he] at hro
                  exact ⟨ret_bool (by rw [hro, node_noword (by omega) (of_decide_eq_false (by have z := h133; simpa [wordsP] using z))]), hM134.sub (List.nil_sublist _)⟩
                ·
                  refine GoS.run [1, 5, 6] [.n] _ [.inBlock 2, .code (csub (cd Try.f19) [1,1,1,1,1])] [(1, pq b), (5, pq b2), (6, .int .i64 0)] w129 (by kernel_rfl) .nil ?_
                  refine GoS.run [1, 5, 6] [.n, .n] _ [.code (csub (cd Try.f19) [1,1,1,1,1,0]), .code (csub (cd Try.f19) [1,1,1,1,1,1])] [(1, pq b), (5, pq b2), (6, .int .i64 0)] w129 (by kernel_rfl) .nil ?_
                  obtain ⟨w144, hw145⟩ : ∃ w_, (w129).drewN 1 = w_ := ⟨_, rfl⟩
                  refine GoS.held (fun W_ => Mem [] w0 W_ [⟨25, 8, (obj b2), 1, [.int .i64 (h.op), .string (sb (h.field)), .string (sb (h.text)), .int .i64 (h.edits), .int .i64 (h.exact), .int .u64 0, .int .u64 0, v]⟩, ⟨25, 8, (obj b), 1, (qR h v)⟩]) [] 31 (by kernel_rfl) (by kernel_rfl) 13 (by kernel_rfl) ?_
                  rw [hw145]
                  have hM146 : Mem [] w0 w144 [⟨25, 8, (obj b2), 1, [.int .i64 (h.op), .string (sb (h.field)), .string (sb (h.text)), .int .i64 (h.edits), .int .i64 (h.exact), .int .u64 0, .int .u64 0, v]⟩, ⟨25, 8, (obj b), 1, (qR h v)⟩] := hw145 ▸ hM131.ext (Kept.drewN _ _ 1)
                  have hS147 : Mem [] w0 w144 [⟨25, 8, (obj b2), 1, [.int .i64 (h.op), .string (sb (h.field)), .string (sb (h.text)), .int .i64 (h.edits), .int .i64 (h.exact), .int .u64 0, .int .u64 0, v]⟩, ⟨25, 8, (obj b), 1, (qR h v)⟩] := hM146.sub (cc (cc (List.Sublist.refl _)))
                  refine GoH.takeV 0 (.pointer (some (⟨b, 7, none⟩))) (.pointer (some (⟨b, 7, none⟩))) (some 81) (fun W_ => by kernel_rfl) rfl hS147 ?_
                  refine GoH.takeF 1 (v) (fun W_ => (Instr.loadAt 23 (.pointer (some (⟨b, 7, none⟩)))).run Try.prog W_ = .ok (v) W_) (some 82) (fun W_ => by kernel_rfl) (fun W_ hW_ => c_load pE23 (hW_.rd 1 rfl) (cel_obj b 7) rfl) hS147 ?_
                  refine GoH.takeF 2 (.int .i64 (((List.length L) : Nat) : Int)) (fun W_ => (Builtin.len_ #[23] 3 #[v]).run Try.prog W_ = .ok (.int .i64 (((List.length L) : Nat) : Int)) W_) (some 83) (fun W_ => by kernel_rfl) (fun W_ hW_ => f_slen sT23 (hr.kept0 hW_.kept) 3 _) hS147 ?_
                  refine GoH.takeV 3 (.int .i64 0) (.int .i64 0) (some 84) (fun W_ => by kernel_rfl) rfl hS147 ?_
                  refine GoH.takeV 4 (.bool ((((List.length L) : Nat) : Int) == 0)) (.bool ((((List.length L) : Nat) : Int) == 0)) (some 85) (fun W_ => by kernel_rfl) rfl hS147 ?_
                  rcases Bool.eq_false_or_eq_true ((((List.length L) : Nat) : Int) == 0) with h148 | h148
                  ·
                    have h148p : (((List.length L) : Nat) : Int) = 0 := eq_of_beq h148
                    refine GoH.takeV 5 (.bool ((((List.length L) : Nat) : Int) == 0)) (.bool true) (some 86) (fun W_ => by kernel_rfl) (congrArg Value.bool h148) hS147 ?_
                    refine GoH.takeF 6 ((qA h v)) (fun W_ => (Instr.loadAt 25 (pq b)).run Try.prog W_ = .ok ((qA h v)) W_) (some 87) (fun W_ => by kernel_rfl) (fun W_ hW_ => c_loads (ys := (qR h v)) aE25 (hW_.rd 1 rfl) (cel_obj b 0) rfl (by intro j u hj; match j, hj with | 0, hj => exact hj | 1, hj => exact hj | 2, hj => exact hj | 3, hj => exact hj | 4, hj => exact hj | 5, hj => exact hj | 6, hj => exact hj | 7, hj => exact hj | n + 8, hj => cases hj)) hS147 ?_
                    refine GoH.takeF 8 (.agg #[.int .i64 (h.op), .string (sb (h.field)), .string (sb (h.text)), .int .i64 (h.edits), .int .i64 (h.exact), .int .u64 0, .int .u64 0, v]) (fun W_ => (Instr.loadAt 25 (pq b2)).run Try.prog W_ = .ok (.agg #[.int .i64 (h.op), .string (sb (h.field)), .string (sb (h.text)), .int .i64 (h.edits), .int .i64 (h.exact), .int .u64 0, .int .u64 0, v]) W_) (some 89) (fun W_ => by kernel_rfl) (fun W_ hW_ => c_loads (ys := [.int .i64 (h.op), .string (sb (h.field)), .string (sb (h.text)), .int .i64 (h.edits), .int .i64 (h.exact), .int .u64 0, .int .u64 0, v]) aE25 (hW_.rd 0 rfl) (cel_obj b2 0) rfl (by intro j u hj; match j, hj with | 0, hj => exact hj | 1, hj => exact hj | 2, hj => exact hj | 3, hj => exact hj | 4, hj => exact hj | 5, hj => exact hj | 6, hj => exact hj | 7, hj => exact hj | n + 8, hj => cases hj)) hS147 ?_
                    refine GoH.callF 7 21 #[(qA h v)] (some 88) (by kernel_rfl) (flat_c (w := w144) h v) ?_
                    rintro _ w149 ⟨rfl, m150⟩
                    have hM151 : Mem [] w0 w149 [⟨25, 8, (obj b2), 1, [.int .i64 (h.op), .string (sb (h.field)), .string (sb (h.text)), .int .i64 (h.edits), .int .i64 (h.exact), .int .u64 0, .int .u64 0, v]⟩, ⟨25, 8, (obj b), 1, (qR h v)⟩] := Mem.join (R := []) hM146 m150
                    have hS152 : Mem [] w0 w149 [⟨25, 8, (obj b2), 1, [.int .i64 (h.op), .string (sb (h.field)), .string (sb (h.text)), .int .i64 (h.edits), .int .i64 (h.exact), .int .u64 0, .int .u64 0, v]⟩, ⟨25, 8, (obj b), 1, (qR h v)⟩] := hM151.sub (cc (cc (List.Sublist.refl _)))
                    refine ⟨(qH h), rfl, .inr hS152, ?_⟩
                    refine GoH.callF 9 21 #[.agg #[.int .i64 (h.op), .string (sb (h.field)), .string (sb (h.text)), .int .i64 (h.edits), .int .i64 (h.exact), .int .u64 0, .int .u64 0, v]] (some 90) (by kernel_rfl) (flat_c (w := w149) (Hd.mk (h.op) (h.field) (h.text) (h.edits) (h.exact) 0 0) v) ?_
                    rintro _ w153 ⟨rfl, m154⟩
                    have hM155 : Mem [] w0 w153 [⟨25, 8, (obj b2), 1, [.int .i64 (h.op), .string (sb (h.field)), .string (sb (h.text)), .int .i64 (h.edits), .int .i64 (h.exact), .int .u64 0, .int .u64 0, v]⟩, ⟨25, 8, (obj b), 1, (qR h v)⟩] := Mem.join (R := []) hM151 m154
                    have hS156 : Mem [] w0 w153 [⟨25, 8, (obj b2), 1, [.int .i64 (h.op), .string (sb (h.field)), .string (sb (h.text)), .int .i64 (h.edits), .int .i64 (h.exact), .int .u64 0, .int .u64 0, v]⟩, ⟨25, 8, (obj b), 1, (qR h v)⟩] := hM155.sub (cc (cc (List.Sublist.refl _)))
                    refine ⟨.agg #[.int .i64 (h.op), .string (sb (h.field)), .string (sb (h.text)), .int .i64 (h.edits), .int .i64 (h.exact), .int .u64 0, .int .u64 0], rfl, .inr hS156, ?_⟩
                    refine GoH.takeF 10 (.bool (nothP h true true false)) (fun W_ => Try.prog.eqGuardType Try.prog.depth 38 = false ∧ (binOp .eql 38 ((qH h)) (.agg #[.int .i64 (h.op), .string (sb (h.field)), .string (sb (h.text)), .int .i64 (h.edits), .int .i64 (h.exact), .int .u64 0, .int .u64 0])).run Try.prog W_ = .ok (.bool (nothP h true true false)) W_) (some 91) (fun W_ => by kernel_rfl) (fun W_ hW_ => f_ageq eT38 (xs := [.int .i64 (h.op), .string (sb (h.field)), .string (sb (h.text)), .int .i64 (h.edits), .int .i64 (h.exact), .int .u64 (h.lo), .int .u64 (h.hi)]) (ys := [.int .i64 (h.op), .string (sb (h.field)), .string (sb (h.text)), .int .i64 (h.edits), .int .i64 (h.exact), .int .u64 0, .int .u64 0]) (r := ((h.op == h.op) && (((sb (h.field)).toList == (sb (h.field)).toList) && (((sb (h.text)).toList == (sb (h.text)).toList) && ((h.edits == h.edits) && ((h.exact == h.exact) && ((h.lo == 0) && ((h.hi == 0) && true)))))))) (by kernel_rfl) (noth_f h)) hS156 ?_
                    refine GoH.takeV 11 (.bool (nothP h true true false)) (.bool (nothP h true true false)) (some 92) (fun W_ => by kernel_rfl) rfl hS156 ?_
                    refine GoH.takeV 12 (.bool (nothP h true true false)) (.bool (nothP h true true false)) (some 2) (fun W_ => by kernel_rfl) rfl hS156 ?_
                    refine GoH.done [2] [(2, .bool (nothP h true true false))] (by kernel_rfl) (by kernel_rfl) ?_
                    have hM157 : Mem [] w0 w153 [] := hM155.sub (cn (cn (List.Sublist.refl _)))
                    refine GoS.ret (fn := Try.f19) (v := (.bool (nothP h true true false))) Try.func19 (by kernel_rfl) ?_
                    rw [hR]
                    have hall : rightL q.l = true := by rw [← tk_all (l := q.l) (i := i) (by omega)]; exact hRt
                    have hro := right_of hall
                    rw [← he] at hro
                    exact ⟨ret_bool (by rw [hro, node_word (by omega) (by have z := h127; simpa using z) (of_decide_eq_true (by have z := h133; simpa [wordsP] using z)) (by omega), if_pos (by omega)]), hM157.sub (List.nil_sublist _)⟩
                  ·
                    have h148p : ¬ ((((List.length L) : Nat) : Int) = 0) := p_ne h148
                    refine GoH.takeV 5 (.bool ((((List.length L) : Nat) : Int) == 0)) (.bool false) (some 86) (fun W_ => by kernel_rfl) (congrArg Value.bool h148) hS147 ?_
                    refine GoH.skipF 6 (some 87) (by kernel_rfl) hS147 ?_
                    refine GoH.skipF 7 (some 88) (by kernel_rfl) hS147 ?_
                    refine GoH.skipF 8 (some 89) (by kernel_rfl) hS147 ?_
                    refine GoH.skipF 9 (some 90) (by kernel_rfl) hS147 ?_
                    refine GoH.skipF 10 (some 91) (by kernel_rfl) hS147 ?_
                    refine GoH.takeV 11 (.bool false) (.bool false) (some 92) (fun W_ => by kernel_rfl) rfl hS147 ?_
                    refine GoH.takeV 12 (.bool false) (.bool false) (some 2) (fun W_ => by kernel_rfl) rfl hS147 ?_
                    refine GoH.done [2] [(2, .bool false)] (by kernel_rfl) (by kernel_rfl) ?_
                    have hM158 : Mem [] w0 w144 [] := hM146.sub (cn (cn (List.Sublist.refl _)))
                    refine GoS.ret (fn := Try.f19) (v := (.bool false)) Try.func19 (by kernel_rfl) ?_
                    rw [hR]
                    have hall : rightL q.l = true := by rw [← tk_all (l := q.l) (i := i) (by omega)]; exact hRt
                    have hro := right_of hall
                    rw [← he] at hro
                    exact ⟨ret_bool (by rw [hro, node_many (by omega) (by omega)]), hM158.sub (List.nil_sublist _)⟩
            ·
              have h112p : ¬ (h.op = 4) := p_ne h112
              refine GoS.run [1, 5, 6] [.n] _ [.code (csub (cd Try.f19) [1,1,1,1,0,1,0,1,0,1,1]), .inBlock 2, .code (csub (cd Try.f19) [1,1,1,1,1])] [(1, pq b), (5, pq b2), (6, .int .i64 0)] w107 (by kernel_rfl) .nil ?_
              have o135 : (Instr.loadAt 9 (.pointer (some (⟨b, 1, none⟩)))).run Try.prog w107 = .ok (.string (sb (h.field))) w107 := c_load pE9 (hM110.rd 1 rfl) (cel_obj b 1) rfl
              refine GoS.run [1, 5, 6, 47] [.n, .n, .n, .h (.string (sb (h.field)))] _ [.inRegion (cops (csub (cd Try.f19) [1,1,1,1,0,1,0,1,0,1,1,0])) [2,3,4,5,6,7,8], .code (csub (cd Try.f19) [1,1,1,1,0,1,0,1,0,1,1,1]), .inBlock 2, .code (csub (cd Try.f19) [1,1,1,1,1])] [(1, pq b), (5, pq b2), (6, .int .i64 0), (47, .string (sb (h.field)))] w107 (by kernel_rfl) (.cons o135 .nil) ?_
              refine GoS.call [1, 5, 6] 22 #[.string (sb (h.field))] (some 48) [.inRegion (cops (csub (cd Try.f19) [1,1,1,1,0,1,0,1,0,1,1,0])) [3,4,5,6,7,8], .code (csub (cd Try.f19) [1,1,1,1,0,1,0,1,0,1,1,1]), .inBlock 2, .code (csub (cd Try.f19) [1,1,1,1,1])] [(1, pq b), (5, pq b2), (6, .int .i64 0)] (by kernel_rfl) (name_c (h.field) (by rw [he]; omega) w107) ?_
              rintro _ _ ⟨rfl, rfl⟩
              refine ⟨_, rfl, ?_⟩
              refine GoS.run [1, 5, 6, 50] [.n, .n] _ [.inRegion (cops (csub (cd Try.f19) [1,1,1,1,0,1,0,1,0,1,1,0])) [5,6,7,8], .code (csub (cd Try.f19) [1,1,1,1,0,1,0,1,0,1,1,1]), .inBlock 2, .code (csub (cd Try.f19) [1,1,1,1,1])] [(1, pq b), (5, pq b2), (6, .int .i64 0), (50, .bool (!(nameP (h.field))))] w107 (by kernel_rfl) .nil ?_
              refine GoS.fork 50 (!(nameP (h.field))) (by kernel_rfl) (fun h136 => ?_) (fun h136 => ?_)
              ·
                refine GoS.run [1, 5, 6, 54] [.n, .n, .n, .n] _ [.inRegion (cops (csub (cd Try.f19) [1,1,1,1,0,1,0,1,0,1,1,0])) [], .code (csub (cd Try.f19) [1,1,1,1,0,1,0,1,0,1,1,1]), .inBlock 2, .code (csub (cd Try.f19) [1,1,1,1,1])] [(1, pq b), (5, pq b2), (6, .int .i64 0), (54, .bool true)] w107 (by kernel_rfl) .nil ?_
                have hM141 : Mem [] w0 w107 [] := hM110.sub (cn (cn (List.Sublist.refl _)))
                refine GoS.run [2] [.n, .n, .n, .n, .n, .n] _ [.code (csub (cd Try.f19) [1,1,1,1,0,1,0,1,0,1,1,1,0,1]), .inBlock 2, .code (csub (cd Try.f19) [1,1,1,1,1])] [(2, .bool false)] w107 (by kernel_rfl) .nil ?_
                refine GoS.ret (fn := Try.f19) (v := (.bool false)) Try.func19 (by kernel_rfl) ?_
                rw [hR]
                have hall : rightL q.l = true := by rw [← tk_all (l := q.l) (i := i) (by omega)]; exact hRt
                have hro := right_of hall
                rw [← he] at hro
                exact ⟨ret_bool (by rw [hro, node_name (by omega) (by have z := h136; simpa using z)]), hM141.sub (List.nil_sublist _)⟩
              ·
                have o137 : (Instr.loadAt 25 (pq b)).run Try.prog w107 = .ok ((qA h v)) w107 := c_loads (ys := (qR h v)) aE25 (hM110.rd 1 rfl) (cel_obj b 0) rfl (by intro j u hj; match j, hj with | 0, hj => exact hj | 1, hj => exact hj | 2, hj => exact hj | 3, hj => exact hj | 4, hj => exact hj | 5, hj => exact hj | 6, hj => exact hj | 7, hj => exact hj | n + 8, hj => cases hj)
                refine GoS.run [1, 5, 6, 50, 51] [.h ((qA h v))] _ [.inRegion (cops (csub (cd Try.f19) [1,1,1,1,0,1,0,1,0,1,1,0])) [6,7,8], .code (csub (cd Try.f19) [1,1,1,1,0,1,0,1,0,1,1,1]), .inBlock 2, .code (csub (cd Try.f19) [1,1,1,1,1])] [(1, pq b), (5, pq b2), (6, .int .i64 0), (50, .bool false), (51, (qA h v))] w107 (by kernel_rfl) (.cons o137 .nil) ?_
                refine GoS.call [1, 5, 6, 50] 23 #[(qA h v)] (some 52) [.inRegion (cops (csub (cd Try.f19) [1,1,1,1,0,1,0,1,0,1,1,0])) [7,8], .code (csub (cd Try.f19) [1,1,1,1,0,1,0,1,0,1,1,1]), .inBlock 2, .code (csub (cd Try.f19) [1,1,1,1,1])] [(1, pq b), (5, pq b2), (6, .int .i64 0), (50, .bool false)] (by kernel_rfl) (words_c q h he v (hq.kept hM110.kept) (by omega)) ?_
                rintro _ w138 ⟨rfl, m139⟩
                refine ⟨_, rfl, ?_⟩
                have hM140 : Mem [] w0 w138 [⟨25, 8, (obj b2), 1, [.int .i64 (h.op), .string (sb (h.field)), .string (sb (h.text)), .int .i64 0, .int .i64 0, .int .u64 0, .int .u64 0, v]⟩, ⟨25, 8, (obj b), 1, (qR h v)⟩] := Mem.join (R := []) hM110 m139
                refine GoS.run [1, 5, 6, 54] [.n, .n] _ [.inRegion (cops (csub (cd Try.f19) [1,1,1,1,0,1,0,1,0,1,1,0])) [], .code (csub (cd Try.f19) [1,1,1,1,0,1,0,1,0,1,1,1]), .inBlock 2, .code (csub (cd Try.f19) [1,1,1,1,1])] [(1, pq b), (5, pq b2), (6, .int .i64 0), (54, .bool (!(wordsP h)))] w138 (by kernel_rfl) .nil ?_
                refine GoS.run [1, 5, 6, 54] [.n] _ [.code (csub (cd Try.f19) [1,1,1,1,0,1,0,1,0,1,1,1]), .inBlock 2, .code (csub (cd Try.f19) [1,1,1,1,1])] [(1, pq b), (5, pq b2), (6, .int .i64 0), (54, .bool (!(wordsP h)))] w138 (by kernel_rfl) .nil ?_
                refine GoS.cond (!(wordsP h)) [.code (csub (cd Try.f19) [1,1,1,1,0,1,0,1,0,1,1,1,0]), .inBlock 2, .code (csub (cd Try.f19) [1,1,1,1,1])] [.code (csub (cd Try.f19) [1,1,1,1,0,1,0,1,0,1,1,1,1]), .inBlock 2, .code (csub (cd Try.f19) [1,1,1,1,1])] (by kernel_rfl) (fun h142 => ?_) (fun h142 => ?_)
                ·
                  have hM143 : Mem [] w0 w138 [] := hM140.sub (cn (cn (List.Sublist.refl _)))
                  refine GoS.run [2] [.n, .n, .n, .n] _ [.code (csub (cd Try.f19) [1,1,1,1,0,1,0,1,0,1,1,1,0,1]), .inBlock 2, .code (csub (cd Try.f19) [1,1,1,1,1])] [(2, .bool false)] w138 (by kernel_rfl) .nil ?_
                  refine GoS.ret (fn := Try.f19) (v := (.bool false)) Try.func19 (by kernel_rfl) ?_
                  rw [hR]
                  have hall : rightL q.l = true := by rw [← tk_all (l := q.l) (i := i) (by omega)]; exact hRt
                  have hro := right_of hall
                  rw [← he] at hro
                  exact ⟨ret_bool (by rw [hro, node_noword (by omega) (of_decide_eq_false (by have z := h142; simpa [wordsP] using z))]), hM143.sub (List.nil_sublist _)⟩
                ·
                  refine GoS.run [1, 5, 6] [.n] _ [.inBlock 2, .code (csub (cd Try.f19) [1,1,1,1,1])] [(1, pq b), (5, pq b2), (6, .int .i64 0)] w138 (by kernel_rfl) .nil ?_
                  refine GoS.run [1, 5, 6] [.n, .n] _ [.code (csub (cd Try.f19) [1,1,1,1,1,0]), .code (csub (cd Try.f19) [1,1,1,1,1,1])] [(1, pq b), (5, pq b2), (6, .int .i64 0)] w138 (by kernel_rfl) .nil ?_
                  obtain ⟨w159, hw160⟩ : ∃ w_, (w138).drewN 1 = w_ := ⟨_, rfl⟩
                  refine GoS.held (fun W_ => Mem [] w0 W_ [⟨25, 8, (obj b2), 1, [.int .i64 (h.op), .string (sb (h.field)), .string (sb (h.text)), .int .i64 0, .int .i64 0, .int .u64 0, .int .u64 0, v]⟩, ⟨25, 8, (obj b), 1, (qR h v)⟩]) [] 31 (by kernel_rfl) (by kernel_rfl) 13 (by kernel_rfl) ?_
                  rw [hw160]
                  have hM161 : Mem [] w0 w159 [⟨25, 8, (obj b2), 1, [.int .i64 (h.op), .string (sb (h.field)), .string (sb (h.text)), .int .i64 0, .int .i64 0, .int .u64 0, .int .u64 0, v]⟩, ⟨25, 8, (obj b), 1, (qR h v)⟩] := hw160 ▸ hM140.ext (Kept.drewN _ _ 1)
                  have hS162 : Mem [] w0 w159 [⟨25, 8, (obj b2), 1, [.int .i64 (h.op), .string (sb (h.field)), .string (sb (h.text)), .int .i64 0, .int .i64 0, .int .u64 0, .int .u64 0, v]⟩, ⟨25, 8, (obj b), 1, (qR h v)⟩] := hM161.sub (cc (cc (List.Sublist.refl _)))
                  refine GoH.takeV 0 (.pointer (some (⟨b, 7, none⟩))) (.pointer (some (⟨b, 7, none⟩))) (some 81) (fun W_ => by kernel_rfl) rfl hS162 ?_
                  refine GoH.takeF 1 (v) (fun W_ => (Instr.loadAt 23 (.pointer (some (⟨b, 7, none⟩)))).run Try.prog W_ = .ok (v) W_) (some 82) (fun W_ => by kernel_rfl) (fun W_ hW_ => c_load pE23 (hW_.rd 1 rfl) (cel_obj b 7) rfl) hS162 ?_
                  refine GoH.takeF 2 (.int .i64 (((List.length L) : Nat) : Int)) (fun W_ => (Builtin.len_ #[23] 3 #[v]).run Try.prog W_ = .ok (.int .i64 (((List.length L) : Nat) : Int)) W_) (some 83) (fun W_ => by kernel_rfl) (fun W_ hW_ => f_slen sT23 (hr.kept0 hW_.kept) 3 _) hS162 ?_
                  refine GoH.takeV 3 (.int .i64 0) (.int .i64 0) (some 84) (fun W_ => by kernel_rfl) rfl hS162 ?_
                  refine GoH.takeV 4 (.bool ((((List.length L) : Nat) : Int) == 0)) (.bool ((((List.length L) : Nat) : Int) == 0)) (some 85) (fun W_ => by kernel_rfl) rfl hS162 ?_
                  rcases Bool.eq_false_or_eq_true ((((List.length L) : Nat) : Int) == 0) with h163 | h163
                  ·
                    have h163p : (((List.length L) : Nat) : Int) = 0 := eq_of_beq h163
                    refine GoH.takeV 5 (.bool ((((List.length L) : Nat) : Int) == 0)) (.bool true) (some 86) (fun W_ => by kernel_rfl) (congrArg Value.bool h163) hS162 ?_
                    refine GoH.takeF 6 ((qA h v)) (fun W_ => (Instr.loadAt 25 (pq b)).run Try.prog W_ = .ok ((qA h v)) W_) (some 87) (fun W_ => by kernel_rfl) (fun W_ hW_ => c_loads (ys := (qR h v)) aE25 (hW_.rd 1 rfl) (cel_obj b 0) rfl (by intro j u hj; match j, hj with | 0, hj => exact hj | 1, hj => exact hj | 2, hj => exact hj | 3, hj => exact hj | 4, hj => exact hj | 5, hj => exact hj | 6, hj => exact hj | 7, hj => exact hj | n + 8, hj => cases hj)) hS162 ?_
                    refine GoH.takeF 8 (.agg #[.int .i64 (h.op), .string (sb (h.field)), .string (sb (h.text)), .int .i64 0, .int .i64 0, .int .u64 0, .int .u64 0, v]) (fun W_ => (Instr.loadAt 25 (pq b2)).run Try.prog W_ = .ok (.agg #[.int .i64 (h.op), .string (sb (h.field)), .string (sb (h.text)), .int .i64 0, .int .i64 0, .int .u64 0, .int .u64 0, v]) W_) (some 89) (fun W_ => by kernel_rfl) (fun W_ hW_ => c_loads (ys := [.int .i64 (h.op), .string (sb (h.field)), .string (sb (h.text)), .int .i64 0, .int .i64 0, .int .u64 0, .int .u64 0, v]) aE25 (hW_.rd 0 rfl) (cel_obj b2 0) rfl (by intro j u hj; match j, hj with | 0, hj => exact hj | 1, hj => exact hj | 2, hj => exact hj | 3, hj => exact hj | 4, hj => exact hj | 5, hj => exact hj | 6, hj => exact hj | 7, hj => exact hj | n + 8, hj => cases hj)) hS162 ?_
                    refine GoH.callF 7 21 #[(qA h v)] (some 88) (by kernel_rfl) (flat_c (w := w159) h v) ?_
                    rintro _ w164 ⟨rfl, m165⟩
                    have hM166 : Mem [] w0 w164 [⟨25, 8, (obj b2), 1, [.int .i64 (h.op), .string (sb (h.field)), .string (sb (h.text)), .int .i64 0, .int .i64 0, .int .u64 0, .int .u64 0, v]⟩, ⟨25, 8, (obj b), 1, (qR h v)⟩] := Mem.join (R := []) hM161 m165
                    have hS167 : Mem [] w0 w164 [⟨25, 8, (obj b2), 1, [.int .i64 (h.op), .string (sb (h.field)), .string (sb (h.text)), .int .i64 0, .int .i64 0, .int .u64 0, .int .u64 0, v]⟩, ⟨25, 8, (obj b), 1, (qR h v)⟩] := hM166.sub (cc (cc (List.Sublist.refl _)))
                    refine ⟨(qH h), rfl, .inr hS167, ?_⟩
                    refine GoH.callF 9 21 #[.agg #[.int .i64 (h.op), .string (sb (h.field)), .string (sb (h.text)), .int .i64 0, .int .i64 0, .int .u64 0, .int .u64 0, v]] (some 90) (by kernel_rfl) (flat_c (w := w164) (Hd.mk (h.op) (h.field) (h.text) 0 0 0 0) v) ?_
                    rintro _ w168 ⟨rfl, m169⟩
                    have hM170 : Mem [] w0 w168 [⟨25, 8, (obj b2), 1, [.int .i64 (h.op), .string (sb (h.field)), .string (sb (h.text)), .int .i64 0, .int .i64 0, .int .u64 0, .int .u64 0, v]⟩, ⟨25, 8, (obj b), 1, (qR h v)⟩] := Mem.join (R := []) hM166 m169
                    have hS171 : Mem [] w0 w168 [⟨25, 8, (obj b2), 1, [.int .i64 (h.op), .string (sb (h.field)), .string (sb (h.text)), .int .i64 0, .int .i64 0, .int .u64 0, .int .u64 0, v]⟩, ⟨25, 8, (obj b), 1, (qR h v)⟩] := hM170.sub (cc (cc (List.Sublist.refl _)))
                    refine ⟨.agg #[.int .i64 (h.op), .string (sb (h.field)), .string (sb (h.text)), .int .i64 0, .int .i64 0, .int .u64 0, .int .u64 0], rfl, .inr hS171, ?_⟩
                    refine GoH.takeF 10 (.bool (nothP h true false false)) (fun W_ => Try.prog.eqGuardType Try.prog.depth 38 = false ∧ (binOp .eql 38 ((qH h)) (.agg #[.int .i64 (h.op), .string (sb (h.field)), .string (sb (h.text)), .int .i64 0, .int .i64 0, .int .u64 0, .int .u64 0])).run Try.prog W_ = .ok (.bool (nothP h true false false)) W_) (some 91) (fun W_ => by kernel_rfl) (fun W_ hW_ => f_ageq eT38 (xs := [.int .i64 (h.op), .string (sb (h.field)), .string (sb (h.text)), .int .i64 (h.edits), .int .i64 (h.exact), .int .u64 (h.lo), .int .u64 (h.hi)]) (ys := [.int .i64 (h.op), .string (sb (h.field)), .string (sb (h.text)), .int .i64 0, .int .i64 0, .int .u64 0, .int .u64 0]) (r := ((h.op == h.op) && (((sb (h.field)).toList == (sb (h.field)).toList) && (((sb (h.text)).toList == (sb (h.text)).toList) && ((h.edits == 0) && ((h.exact == 0) && ((h.lo == 0) && ((h.hi == 0) && true)))))))) (by kernel_rfl) (noth_t h)) hS171 ?_
                    refine GoH.takeV 11 (.bool (nothP h true false false)) (.bool (nothP h true false false)) (some 92) (fun W_ => by kernel_rfl) rfl hS171 ?_
                    refine GoH.takeV 12 (.bool (nothP h true false false)) (.bool (nothP h true false false)) (some 2) (fun W_ => by kernel_rfl) rfl hS171 ?_
                    refine GoH.done [2] [(2, .bool (nothP h true false false))] (by kernel_rfl) (by kernel_rfl) ?_
                    have hM172 : Mem [] w0 w168 [] := hM170.sub (cn (cn (List.Sublist.refl _)))
                    refine GoS.ret (fn := Try.f19) (v := (.bool (nothP h true false false))) Try.func19 (by kernel_rfl) ?_
                    rw [hR]
                    have hall : rightL q.l = true := by rw [← tk_all (l := q.l) (i := i) (by omega)]; exact hRt
                    have hro := right_of hall
                    rw [← he] at hro
                    exact ⟨ret_bool (by rw [hro, node_word (by omega) (by have z := h136; simpa using z) (of_decide_eq_true (by have z := h142; simpa [wordsP] using z)) (by omega), if_neg (by omega)]), hM172.sub (List.nil_sublist _)⟩
                  ·
                    have h163p : ¬ ((((List.length L) : Nat) : Int) = 0) := p_ne h163
                    refine GoH.takeV 5 (.bool ((((List.length L) : Nat) : Int) == 0)) (.bool false) (some 86) (fun W_ => by kernel_rfl) (congrArg Value.bool h163) hS162 ?_
                    refine GoH.skipF 6 (some 87) (by kernel_rfl) hS162 ?_
                    refine GoH.skipF 7 (some 88) (by kernel_rfl) hS162 ?_
                    refine GoH.skipF 8 (some 89) (by kernel_rfl) hS162 ?_
                    refine GoH.skipF 9 (some 90) (by kernel_rfl) hS162 ?_
                    refine GoH.skipF 10 (some 91) (by kernel_rfl) hS162 ?_
                    refine GoH.takeV 11 (.bool false) (.bool false) (some 92) (fun W_ => by kernel_rfl) rfl hS162 ?_
                    refine GoH.takeV 12 (.bool false) (.bool false) (some 2) (fun W_ => by kernel_rfl) rfl hS162 ?_
                    refine GoH.done [2] [(2, .bool false)] (by kernel_rfl) (by kernel_rfl) ?_
                    have hM173 : Mem [] w0 w159 [] := hM161.sub (cn (cn (List.Sublist.refl _)))
                    refine GoS.ret (fn := Try.f19) (v := (.bool false)) Try.func19 (by kernel_rfl) ?_
                    rw [hR]
                    have hall : rightL q.l = true := by rw [← tk_all (l := q.l) (i := i) (by omega)]; exact hRt
                    have hro := right_of hall
                    rw [← he] at hro
                    exact ⟨ret_bool (by rw [hro, node_many (by omega) (by omega)]), hM173.sub (List.nil_sublist _)⟩
          ·
            rw [h17] at h97; cases h97
        ·
          have h17p : ¬ (h.op = 2) := p_ne h17
          refine GoS.run [1, 5, 6, 24, 25] [.n, .n, .n, .n, .n] _ [.code (csub (cd Try.f19) [1,1,1,1,0,1,0,0,1,1,1,1,1]), .code (csub (cd Try.f19) [1,1,1,1,0,1,0,1]), .inBlock 2, .code (csub (cd Try.f19) [1,1,1,1,1])] [(1, pq b), (5, pq b2), (6, .int .i64 0), (24, .int .i64 (h.op)), (25, .bool (h.op == 3))] w7 (by kernel_rfl) .nil ?_
          refine GoS.cond (h.op == 3) [.code (csub (cd Try.f19) [1,1,1,1,0,1,0,0,1,1,1,1,1,0]), .code (csub (cd Try.f19) [1,1,1,1,0,1,0,1]), .inBlock 2, .code (csub (cd Try.f19) [1,1,1,1,1])] [.code (csub (cd Try.f19) [1,1,1,1,0,1,0,0,1,1,1,1,1,1]), .code (csub (cd Try.f19) [1,1,1,1,0,1,0,1]), .inBlock 2, .code (csub (cd Try.f19) [1,1,1,1,1])] (by kernel_rfl) (fun h18 => ?_) (fun h18 => ?_)
          ·
            have h18p : h.op = 3 := eq_of_beq h18
            refine GoS.run [1, 5, 6, 24, 25] [.n] _ [.code (csub (cd Try.f19) [1,1,1,1,0,1,0,1]), .inBlock 2, .code (csub (cd Try.f19) [1,1,1,1,1])] [(1, pq b), (5, pq b2), (6, .int .i64 0), (24, .int .i64 (h.op)), (25, .bool (h.op == 3))] w7 (by kernel_rfl) .nil ?_
            refine GoS.cond (h.op == 3) [.code (csub (cd Try.f19) [1,1,1,1,0,1,0,1,0]), .inBlock 2, .code (csub (cd Try.f19) [1,1,1,1,1])] [.code (csub (cd Try.f19) [1,1,1,1,0,1,0,1,1]), .inBlock 2, .code (csub (cd Try.f19) [1,1,1,1,1])] (by kernel_rfl) (fun h174 => ?_) (fun h174 => ?_)
            ·
              have h174p : h.op = 3 := eq_of_beq h174
              refine GoS.run [1, 5, 6] [.n] _ [.code (csub (cd Try.f19) [1,1,1,1,0,1,0,1,0,0]), .code (csub (cd Try.f19) [1,1,1,1,0,1,0,1,0,1]), .inBlock 2, .code (csub (cd Try.f19) [1,1,1,1,1])] [(1, pq b), (5, pq b2), (6, .int .i64 0)] w7 (by kernel_rfl) .nil ?_
              obtain ⟨w175, hw176⟩ : ∃ w_, (w7).drewN 1 = w_ := ⟨_, rfl⟩
              refine GoS.held (fun W_ => Mem [] w0 W_ [⟨25, 8, (obj b), 1, (qR h v)⟩]) [7] 16 (by kernel_rfl) (by kernel_rfl) 8 (by kernel_rfl) ?_
              rw [hw176]
              have hM177 : Mem [] w0 w175 [⟨25, 8, (obj b2), 1, [.int .i64 (h.op), .string (sb ([])), .string (sb ([])), .int .i64 0, .int .i64 0, .int .u64 0, .int .u64 0, v]⟩, ⟨25, 8, (obj b), 1, (qR h v)⟩] := hw176 ▸ hM10.ext (Kept.drewN _ _ 1)
              have hS178 : Mem [] w0 w175 [⟨25, 8, (obj b), 1, (qR h v)⟩] := hM177.sub (cn (cc (List.Sublist.refl _)))
              refine GoH.takeV 0 (.pointer (some (⟨b, 1, none⟩))) (.pointer (some (⟨b, 1, none⟩))) (some 31) (fun W_ => by kernel_rfl) rfl hS178 ?_
              refine GoH.takeF 1 (.string (sb (h.field))) (fun W_ => (Instr.loadAt 9 (.pointer (some (⟨b, 1, none⟩)))).run Try.prog W_ = .ok (.string (sb (h.field))) W_) (some 32) (fun W_ => by kernel_rfl) (fun W_ hW_ => c_load pE9 (hW_.rd 0 rfl) (cel_obj b 1) rfl) hS178 ?_
              refine GoH.takeV 2 (.pointer (some (⟨b, 2, none⟩))) (.pointer (some (⟨b, 2, none⟩))) (some 33) (fun W_ => by kernel_rfl) rfl hS178 ?_
              refine GoH.takeF 3 (.string (sb (h.text))) (fun W_ => (Instr.loadAt 9 (.pointer (some (⟨b, 2, none⟩)))).run Try.prog W_ = .ok (.string (sb (h.text))) W_) (some 34) (fun W_ => by kernel_rfl) (fun W_ hW_ => c_load pE9 (hW_.rd 0 rfl) (cel_obj b 2) rfl) hS178 ?_
              refine GoH.takeV 4 (.pointer (some (⟨b2, 1, none⟩))) (.pointer (some (⟨b2, 1, none⟩))) (some 35) (fun W_ => by kernel_rfl) rfl hS178 ?_
              obtain ⟨w179, hr180, hM181⟩ := c_store (u := .string (sb (h.field))) (by kernel_rfl) hM177 0 rfl (cel_obj b2 1) (by decide) rfl rfl
              have hM182 : Mem [] w0 w179 [⟨25, 8, (obj b2), 1, [.int .i64 (h.op), .string (sb (h.field)), .string (sb ([])), .int .i64 0, .int .i64 0, .int .u64 0, .int .u64 0, v]⟩, ⟨25, 8, (obj b), 1, (qR h v)⟩] := hM181
              have hS183 : Mem [] w0 w179 [⟨25, 8, (obj b), 1, (qR h v)⟩] := hM182.sub (cn (cc (List.Sublist.refl _)))
              refine GoH.stepF 5 (undef) (w179) ((Instr.storeAt 9 (.pointer (some (⟨b2, 1, none⟩))) (.string (sb (h.field)))).run Try.prog w175 = .ok () w179 ∧ undef = undef) none (by kernel_rfl) (⟨hr180, rfl⟩) (.inr hS183) ?_
              refine GoH.takeV 6 (.pointer (some (⟨b2, 2, none⟩))) (.pointer (some (⟨b2, 2, none⟩))) (some 36) (fun W_ => by kernel_rfl) rfl hS183 ?_
              obtain ⟨w184, hr185, hM186⟩ := c_store (u := .string (sb (h.text))) (by kernel_rfl) hM182 0 rfl (cel_obj b2 2) (by decide) rfl rfl
              have hM187 : Mem [] w0 w184 [⟨25, 8, (obj b2), 1, [.int .i64 (h.op), .string (sb (h.field)), .string (sb (h.text)), .int .i64 0, .int .i64 0, .int .u64 0, .int .u64 0, v]⟩, ⟨25, 8, (obj b), 1, (qR h v)⟩] := hM186
              refine GoH.stepF 7 (undef) (w184) ((Instr.storeAt 9 (.pointer (some (⟨b2, 2, none⟩))) (.string (sb (h.text)))).run Try.prog w179 = .ok () w184 ∧ undef = undef) none (by kernel_rfl) (⟨hr185, rfl⟩) (.inl rfl) ?_
              refine GoH.done [1, 5, 6] [(1, pq b), (5, pq b2), (6, .int .i64 0)] (by kernel_rfl) (by kernel_rfl) ?_
              have o188 : (Instr.loadAt 3 (pq b)).run Try.prog w184 = .ok (.int .i64 (h.op)) w184 := c_load pE3 (hM187.rd 1 rfl) (cel_obj b 0) rfl
              refine GoS.run [1, 5, 6, 39] [.n, .n, .n, .n, .h (.int .i64 (h.op)), .n, .n] _ [.code (csub (cd Try.f19) [1,1,1,1,0,1,0,1,0,1,0,1]), .code (csub (cd Try.f19) [1,1,1,1,0,1,0,1,0,1,1]), .inBlock 2, .code (csub (cd Try.f19) [1,1,1,1,1])] [(1, pq b), (5, pq b2), (6, .int .i64 0), (39, .bool (h.op == 4))] w184 (by kernel_rfl) (.cons o188 .nil) ?_
              refine GoS.cond (h.op == 4) [.code (csub (cd Try.f19) [1,1,1,1,0,1,0,1,0,1,0,1,0]), .code (csub (cd Try.f19) [1,1,1,1,0,1,0,1,0,1,1]), .inBlock 2, .code (csub (cd Try.f19) [1,1,1,1,1])] [.code (csub (cd Try.f19) [1,1,1,1,0,1,0,1,0,1,0,1,1]), .code (csub (cd Try.f19) [1,1,1,1,0,1,0,1,0,1,1]), .inBlock 2, .code (csub (cd Try.f19) [1,1,1,1,1])] (by kernel_rfl) (fun h189 => ?_) (fun h189 => ?_)
              ·
                have h189p : h.op = 4 := eq_of_beq h189
                obtain ⟨w190, hw191⟩ : ∃ w_, (w184).drewN 1 = w_ := ⟨_, rfl⟩
                refine GoS.held (fun W_ => Mem [] w0 W_ [⟨25, 8, (obj b), 1, (qR h v)⟩]) [7] 18 (by kernel_rfl) (by kernel_rfl) 8 (by kernel_rfl) ?_
                rw [hw191]
                have hM192 : Mem [] w0 w190 [⟨25, 8, (obj b2), 1, [.int .i64 (h.op), .string (sb (h.field)), .string (sb (h.text)), .int .i64 0, .int .i64 0, .int .u64 0, .int .u64 0, v]⟩, ⟨25, 8, (obj b), 1, (qR h v)⟩] := hw191 ▸ hM187.ext (Kept.drewN _ _ 1)
                have hS193 : Mem [] w0 w190 [⟨25, 8, (obj b), 1, (qR h v)⟩] := hM192.sub (cn (cc (List.Sublist.refl _)))
                refine GoH.takeV 0 (.pointer (some (⟨b, 3, none⟩))) (.pointer (some (⟨b, 3, none⟩))) (some 40) (fun W_ => by kernel_rfl) rfl hS193 ?_
                refine GoH.takeF 1 (.int .i64 (h.edits)) (fun W_ => (Instr.loadAt 3 (.pointer (some (⟨b, 3, none⟩)))).run Try.prog W_ = .ok (.int .i64 (h.edits)) W_) (some 41) (fun W_ => by kernel_rfl) (fun W_ hW_ => c_load pE3 (hW_.rd 0 rfl) (cel_obj b 3) rfl) hS193 ?_
                refine GoH.takeV 2 (.pointer (some (⟨b, 4, none⟩))) (.pointer (some (⟨b, 4, none⟩))) (some 42) (fun W_ => by kernel_rfl) rfl hS193 ?_
                refine GoH.takeF 3 (.int .i64 (h.exact)) (fun W_ => (Instr.loadAt 3 (.pointer (some (⟨b, 4, none⟩)))).run Try.prog W_ = .ok (.int .i64 (h.exact)) W_) (some 43) (fun W_ => by kernel_rfl) (fun W_ hW_ => c_load pE3 (hW_.rd 0 rfl) (cel_obj b 4) rfl) hS193 ?_
                refine GoH.takeV 4 (.pointer (some (⟨b2, 3, none⟩))) (.pointer (some (⟨b2, 3, none⟩))) (some 44) (fun W_ => by kernel_rfl) rfl hS193 ?_
                obtain ⟨w194, hr195, hM196⟩ := c_store (u := .int .i64 (h.edits)) (by kernel_rfl) hM192 0 rfl (cel_obj b2 3) (by decide) rfl rfl
                have hM197 : Mem [] w0 w194 [⟨25, 8, (obj b2), 1, [.int .i64 (h.op), .string (sb (h.field)), .string (sb (h.text)), .int .i64 (h.edits), .int .i64 0, .int .u64 0, .int .u64 0, v]⟩, ⟨25, 8, (obj b), 1, (qR h v)⟩] := hM196
                have hS198 : Mem [] w0 w194 [⟨25, 8, (obj b), 1, (qR h v)⟩] := hM197.sub (cn (cc (List.Sublist.refl _)))
                refine GoH.stepF 5 (undef) (w194) ((Instr.storeAt 3 (.pointer (some (⟨b2, 3, none⟩))) (.int .i64 (h.edits))).run Try.prog w190 = .ok () w194 ∧ undef = undef) none (by kernel_rfl) (⟨hr195, rfl⟩) (.inr hS198) ?_
                refine GoH.takeV 6 (.pointer (some (⟨b2, 4, none⟩))) (.pointer (some (⟨b2, 4, none⟩))) (some 45) (fun W_ => by kernel_rfl) rfl hS198 ?_
                obtain ⟨w199, hr200, hM201⟩ := c_store (u := .int .i64 (h.exact)) (by kernel_rfl) hM197 0 rfl (cel_obj b2 4) (by decide) rfl rfl
                have hM202 : Mem [] w0 w199 [⟨25, 8, (obj b2), 1, [.int .i64 (h.op), .string (sb (h.field)), .string (sb (h.text)), .int .i64 (h.edits), .int .i64 (h.exact), .int .u64 0, .int .u64 0, v]⟩, ⟨25, 8, (obj b), 1, (qR h v)⟩] := hM201
                refine GoH.stepF 7 (undef) (w199) ((Instr.storeAt 3 (.pointer (some (⟨b2, 4, none⟩))) (.int .i64 (h.exact))).run Try.prog w194 = .ok () w199 ∧ undef = undef) none (by kernel_rfl) (⟨hr200, rfl⟩) (.inl rfl) ?_
                refine GoH.done [1, 5, 6] [(1, pq b), (5, pq b2), (6, .int .i64 0)] (by kernel_rfl) (by kernel_rfl) ?_
                have o203 : (Instr.loadAt 9 (.pointer (some (⟨b, 1, none⟩)))).run Try.prog w199 = .ok (.string (sb (h.field))) w199 := c_load pE9 (hM202.rd 1 rfl) (cel_obj b 1) rfl
                refine GoS.run [1, 5, 6, 47] [.n, .n, .n, .h (.string (sb (h.field)))] _ [.inRegion (cops (csub (cd Try.f19) [1,1,1,1,0,1,0,1,0,1,1,0])) [2,3,4,5,6,7,8], .code (csub (cd Try.f19) [1,1,1,1,0,1,0,1,0,1,1,1]), .inBlock 2, .code (csub (cd Try.f19) [1,1,1,1,1])] [(1, pq b), (5, pq b2), (6, .int .i64 0), (47, .string (sb (h.field)))] w199 (by kernel_rfl) (.cons o203 .nil) ?_
                refine GoS.call [1, 5, 6] 22 #[.string (sb (h.field))] (some 48) [.inRegion (cops (csub (cd Try.f19) [1,1,1,1,0,1,0,1,0,1,1,0])) [3,4,5,6,7,8], .code (csub (cd Try.f19) [1,1,1,1,0,1,0,1,0,1,1,1]), .inBlock 2, .code (csub (cd Try.f19) [1,1,1,1,1])] [(1, pq b), (5, pq b2), (6, .int .i64 0)] (by kernel_rfl) (name_c (h.field) (by rw [he]; omega) w199) ?_
                rintro _ _ ⟨rfl, rfl⟩
                refine ⟨_, rfl, ?_⟩
                refine GoS.run [1, 5, 6, 50] [.n, .n] _ [.inRegion (cops (csub (cd Try.f19) [1,1,1,1,0,1,0,1,0,1,1,0])) [5,6,7,8], .code (csub (cd Try.f19) [1,1,1,1,0,1,0,1,0,1,1,1]), .inBlock 2, .code (csub (cd Try.f19) [1,1,1,1,1])] [(1, pq b), (5, pq b2), (6, .int .i64 0), (50, .bool (!(nameP (h.field))))] w199 (by kernel_rfl) .nil ?_
                refine GoS.fork 50 (!(nameP (h.field))) (by kernel_rfl) (fun h204 => ?_) (fun h204 => ?_)
                ·
                  refine GoS.run [1, 5, 6, 54] [.n, .n, .n, .n] _ [.inRegion (cops (csub (cd Try.f19) [1,1,1,1,0,1,0,1,0,1,1,0])) [], .code (csub (cd Try.f19) [1,1,1,1,0,1,0,1,0,1,1,1]), .inBlock 2, .code (csub (cd Try.f19) [1,1,1,1,1])] [(1, pq b), (5, pq b2), (6, .int .i64 0), (54, .bool true)] w199 (by kernel_rfl) .nil ?_
                  have hM209 : Mem [] w0 w199 [] := hM202.sub (cn (cn (List.Sublist.refl _)))
                  refine GoS.run [2] [.n, .n, .n, .n, .n, .n] _ [.code (csub (cd Try.f19) [1,1,1,1,0,1,0,1,0,1,1,1,0,1]), .inBlock 2, .code (csub (cd Try.f19) [1,1,1,1,1])] [(2, .bool false)] w199 (by kernel_rfl) .nil ?_
                  refine GoS.ret (fn := Try.f19) (v := (.bool false)) Try.func19 (by kernel_rfl) ?_
                  rw [hR]
                  have hall : rightL q.l = true := by rw [← tk_all (l := q.l) (i := i) (by omega)]; exact hRt
                  have hro := right_of hall
                  rw [← he] at hro
                  exact ⟨ret_bool (by rw [hro, node_name (by omega) (by have z := h204; simpa using z)]), hM209.sub (List.nil_sublist _)⟩
                ·
                  have o205 : (Instr.loadAt 25 (pq b)).run Try.prog w199 = .ok ((qA h v)) w199 := c_loads (ys := (qR h v)) aE25 (hM202.rd 1 rfl) (cel_obj b 0) rfl (by intro j u hj; match j, hj with | 0, hj => exact hj | 1, hj => exact hj | 2, hj => exact hj | 3, hj => exact hj | 4, hj => exact hj | 5, hj => exact hj | 6, hj => exact hj | 7, hj => exact hj | n + 8, hj => cases hj)
                  refine GoS.run [1, 5, 6, 50, 51] [.h ((qA h v))] _ [.inRegion (cops (csub (cd Try.f19) [1,1,1,1,0,1,0,1,0,1,1,0])) [6,7,8], .code (csub (cd Try.f19) [1,1,1,1,0,1,0,1,0,1,1,1]), .inBlock 2, .code (csub (cd Try.f19) [1,1,1,1,1])] [(1, pq b), (5, pq b2), (6, .int .i64 0), (50, .bool false), (51, (qA h v))] w199 (by kernel_rfl) (.cons o205 .nil) ?_
                  refine GoS.call [1, 5, 6, 50] 23 #[(qA h v)] (some 52) [.inRegion (cops (csub (cd Try.f19) [1,1,1,1,0,1,0,1,0,1,1,0])) [7,8], .code (csub (cd Try.f19) [1,1,1,1,0,1,0,1,0,1,1,1]), .inBlock 2, .code (csub (cd Try.f19) [1,1,1,1,1])] [(1, pq b), (5, pq b2), (6, .int .i64 0), (50, .bool false)] (by kernel_rfl) (words_c q h he v (hq.kept hM202.kept) (by omega)) ?_
                  rintro _ w206 ⟨rfl, m207⟩
                  refine ⟨_, rfl, ?_⟩
                  have hM208 : Mem [] w0 w206 [⟨25, 8, (obj b2), 1, [.int .i64 (h.op), .string (sb (h.field)), .string (sb (h.text)), .int .i64 (h.edits), .int .i64 (h.exact), .int .u64 0, .int .u64 0, v]⟩, ⟨25, 8, (obj b), 1, (qR h v)⟩] := Mem.join (R := []) hM202 m207
                  refine GoS.run [1, 5, 6, 54] [.n, .n] _ [.inRegion (cops (csub (cd Try.f19) [1,1,1,1,0,1,0,1,0,1,1,0])) [], .code (csub (cd Try.f19) [1,1,1,1,0,1,0,1,0,1,1,1]), .inBlock 2, .code (csub (cd Try.f19) [1,1,1,1,1])] [(1, pq b), (5, pq b2), (6, .int .i64 0), (54, .bool (!(wordsP h)))] w206 (by kernel_rfl) .nil ?_
                  refine GoS.run [1, 5, 6, 54] [.n] _ [.code (csub (cd Try.f19) [1,1,1,1,0,1,0,1,0,1,1,1]), .inBlock 2, .code (csub (cd Try.f19) [1,1,1,1,1])] [(1, pq b), (5, pq b2), (6, .int .i64 0), (54, .bool (!(wordsP h)))] w206 (by kernel_rfl) .nil ?_
                  refine GoS.cond (!(wordsP h)) [.code (csub (cd Try.f19) [1,1,1,1,0,1,0,1,0,1,1,1,0]), .inBlock 2, .code (csub (cd Try.f19) [1,1,1,1,1])] [.code (csub (cd Try.f19) [1,1,1,1,0,1,0,1,0,1,1,1,1]), .inBlock 2, .code (csub (cd Try.f19) [1,1,1,1,1])] (by kernel_rfl) (fun h210 => ?_) (fun h210 => ?_)
                  ·
                    have hM211 : Mem [] w0 w206 [] := hM208.sub (cn (cn (List.Sublist.refl _)))
                    refine GoS.run [2] [.n, .n, .n, .n] _ [.code (csub (cd Try.f19) [1,1,1,1,0,1,0,1,0,1,1,1,0,1]), .inBlock 2, .code (csub (cd Try.f19) [1,1,1,1,1])] [(2, .bool false)] w206 (by kernel_rfl) .nil ?_
                    refine GoS.ret (fn := Try.f19) (v := (.bool false)) Try.func19 (by kernel_rfl) ?_
                    rw [hR]
                    have hall : rightL q.l = true := by rw [← tk_all (l := q.l) (i := i) (by omega)]; exact hRt
                    have hro := right_of hall
                    rw [← he] at hro
                    exact ⟨ret_bool (by rw [hro, node_noword (by omega) (of_decide_eq_false (by have z := h210; simpa [wordsP] using z))]), hM211.sub (List.nil_sublist _)⟩
                  ·
                    refine GoS.run [1, 5, 6] [.n] _ [.inBlock 2, .code (csub (cd Try.f19) [1,1,1,1,1])] [(1, pq b), (5, pq b2), (6, .int .i64 0)] w206 (by kernel_rfl) .nil ?_
                    refine GoS.run [1, 5, 6] [.n, .n] _ [.code (csub (cd Try.f19) [1,1,1,1,1,0]), .code (csub (cd Try.f19) [1,1,1,1,1,1])] [(1, pq b), (5, pq b2), (6, .int .i64 0)] w206 (by kernel_rfl) .nil ?_
                    obtain ⟨w221, hw222⟩ : ∃ w_, (w206).drewN 1 = w_ := ⟨_, rfl⟩
                    refine GoS.held (fun W_ => Mem [] w0 W_ [⟨25, 8, (obj b2), 1, [.int .i64 (h.op), .string (sb (h.field)), .string (sb (h.text)), .int .i64 (h.edits), .int .i64 (h.exact), .int .u64 0, .int .u64 0, v]⟩, ⟨25, 8, (obj b), 1, (qR h v)⟩]) [] 31 (by kernel_rfl) (by kernel_rfl) 13 (by kernel_rfl) ?_
                    rw [hw222]
                    have hM223 : Mem [] w0 w221 [⟨25, 8, (obj b2), 1, [.int .i64 (h.op), .string (sb (h.field)), .string (sb (h.text)), .int .i64 (h.edits), .int .i64 (h.exact), .int .u64 0, .int .u64 0, v]⟩, ⟨25, 8, (obj b), 1, (qR h v)⟩] := hw222 ▸ hM208.ext (Kept.drewN _ _ 1)
                    have hS224 : Mem [] w0 w221 [⟨25, 8, (obj b2), 1, [.int .i64 (h.op), .string (sb (h.field)), .string (sb (h.text)), .int .i64 (h.edits), .int .i64 (h.exact), .int .u64 0, .int .u64 0, v]⟩, ⟨25, 8, (obj b), 1, (qR h v)⟩] := hM223.sub (cc (cc (List.Sublist.refl _)))
                    refine GoH.takeV 0 (.pointer (some (⟨b, 7, none⟩))) (.pointer (some (⟨b, 7, none⟩))) (some 81) (fun W_ => by kernel_rfl) rfl hS224 ?_
                    refine GoH.takeF 1 (v) (fun W_ => (Instr.loadAt 23 (.pointer (some (⟨b, 7, none⟩)))).run Try.prog W_ = .ok (v) W_) (some 82) (fun W_ => by kernel_rfl) (fun W_ hW_ => c_load pE23 (hW_.rd 1 rfl) (cel_obj b 7) rfl) hS224 ?_
                    refine GoH.takeF 2 (.int .i64 (((List.length L) : Nat) : Int)) (fun W_ => (Builtin.len_ #[23] 3 #[v]).run Try.prog W_ = .ok (.int .i64 (((List.length L) : Nat) : Int)) W_) (some 83) (fun W_ => by kernel_rfl) (fun W_ hW_ => f_slen sT23 (hr.kept0 hW_.kept) 3 _) hS224 ?_
                    refine GoH.takeV 3 (.int .i64 0) (.int .i64 0) (some 84) (fun W_ => by kernel_rfl) rfl hS224 ?_
                    refine GoH.takeV 4 (.bool ((((List.length L) : Nat) : Int) == 0)) (.bool ((((List.length L) : Nat) : Int) == 0)) (some 85) (fun W_ => by kernel_rfl) rfl hS224 ?_
                    rcases Bool.eq_false_or_eq_true ((((List.length L) : Nat) : Int) == 0) with h225 | h225
                    ·
                      have h225p : (((List.length L) : Nat) : Int) = 0 := eq_of_beq h225
                      refine GoH.takeV 5 (.bool ((((List.length L) : Nat) : Int) == 0)) (.bool true) (some 86) (fun W_ => by kernel_rfl) (congrArg Value.bool h225) hS224 ?_
                      refine GoH.takeF 6 ((qA h v)) (fun W_ => (Instr.loadAt 25 (pq b)).run Try.prog W_ = .ok ((qA h v)) W_) (some 87) (fun W_ => by kernel_rfl) (fun W_ hW_ => c_loads (ys := (qR h v)) aE25 (hW_.rd 1 rfl) (cel_obj b 0) rfl (by intro j u hj; match j, hj with | 0, hj => exact hj | 1, hj => exact hj | 2, hj => exact hj | 3, hj => exact hj | 4, hj => exact hj | 5, hj => exact hj | 6, hj => exact hj | 7, hj => exact hj | n + 8, hj => cases hj)) hS224 ?_
                      refine GoH.takeF 8 (.agg #[.int .i64 (h.op), .string (sb (h.field)), .string (sb (h.text)), .int .i64 (h.edits), .int .i64 (h.exact), .int .u64 0, .int .u64 0, v]) (fun W_ => (Instr.loadAt 25 (pq b2)).run Try.prog W_ = .ok (.agg #[.int .i64 (h.op), .string (sb (h.field)), .string (sb (h.text)), .int .i64 (h.edits), .int .i64 (h.exact), .int .u64 0, .int .u64 0, v]) W_) (some 89) (fun W_ => by kernel_rfl) (fun W_ hW_ => c_loads (ys := [.int .i64 (h.op), .string (sb (h.field)), .string (sb (h.text)), .int .i64 (h.edits), .int .i64 (h.exact), .int .u64 0, .int .u64 0, v]) aE25 (hW_.rd 0 rfl) (cel_obj b2 0) rfl (by intro j u hj; match j, hj with | 0, hj => exact hj | 1, hj => exact hj | 2, hj => exact hj | 3, hj => exact hj | 4, hj => exact hj | 5, hj => exact hj | 6, hj => exact hj | 7, hj => exact hj | n + 8, hj => cases hj)) hS224 ?_
                      refine GoH.callF 7 21 #[(qA h v)] (some 88) (by kernel_rfl) (flat_c (w := w221) h v) ?_
                      rintro _ w226 ⟨rfl, m227⟩
                      have hM228 : Mem [] w0 w226 [⟨25, 8, (obj b2), 1, [.int .i64 (h.op), .string (sb (h.field)), .string (sb (h.text)), .int .i64 (h.edits), .int .i64 (h.exact), .int .u64 0, .int .u64 0, v]⟩, ⟨25, 8, (obj b), 1, (qR h v)⟩] := Mem.join (R := []) hM223 m227
                      have hS229 : Mem [] w0 w226 [⟨25, 8, (obj b2), 1, [.int .i64 (h.op), .string (sb (h.field)), .string (sb (h.text)), .int .i64 (h.edits), .int .i64 (h.exact), .int .u64 0, .int .u64 0, v]⟩, ⟨25, 8, (obj b), 1, (qR h v)⟩] := hM228.sub (cc (cc (List.Sublist.refl _)))
                      refine ⟨(qH h), rfl, .inr hS229, ?_⟩
                      refine GoH.callF 9 21 #[.agg #[.int .i64 (h.op), .string (sb (h.field)), .string (sb (h.text)), .int .i64 (h.edits), .int .i64 (h.exact), .int .u64 0, .int .u64 0, v]] (some 90) (by kernel_rfl) (flat_c (w := w226) (Hd.mk (h.op) (h.field) (h.text) (h.edits) (h.exact) 0 0) v) ?_
                      rintro _ w230 ⟨rfl, m231⟩
                      have hM232 : Mem [] w0 w230 [⟨25, 8, (obj b2), 1, [.int .i64 (h.op), .string (sb (h.field)), .string (sb (h.text)), .int .i64 (h.edits), .int .i64 (h.exact), .int .u64 0, .int .u64 0, v]⟩, ⟨25, 8, (obj b), 1, (qR h v)⟩] := Mem.join (R := []) hM228 m231
                      have hS233 : Mem [] w0 w230 [⟨25, 8, (obj b2), 1, [.int .i64 (h.op), .string (sb (h.field)), .string (sb (h.text)), .int .i64 (h.edits), .int .i64 (h.exact), .int .u64 0, .int .u64 0, v]⟩, ⟨25, 8, (obj b), 1, (qR h v)⟩] := hM232.sub (cc (cc (List.Sublist.refl _)))
                      refine ⟨.agg #[.int .i64 (h.op), .string (sb (h.field)), .string (sb (h.text)), .int .i64 (h.edits), .int .i64 (h.exact), .int .u64 0, .int .u64 0], rfl, .inr hS233, ?_⟩
                      refine GoH.takeF 10 (.bool (nothP h true true false)) (fun W_ => Try.prog.eqGuardType Try.prog.depth 38 = false ∧ (binOp .eql 38 ((qH h)) (.agg #[.int .i64 (h.op), .string (sb (h.field)), .string (sb (h.text)), .int .i64 (h.edits), .int .i64 (h.exact), .int .u64 0, .int .u64 0])).run Try.prog W_ = .ok (.bool (nothP h true true false)) W_) (some 91) (fun W_ => by kernel_rfl) (fun W_ hW_ => f_ageq eT38 (xs := [.int .i64 (h.op), .string (sb (h.field)), .string (sb (h.text)), .int .i64 (h.edits), .int .i64 (h.exact), .int .u64 (h.lo), .int .u64 (h.hi)]) (ys := [.int .i64 (h.op), .string (sb (h.field)), .string (sb (h.text)), .int .i64 (h.edits), .int .i64 (h.exact), .int .u64 0, .int .u64 0]) (r := ((h.op == h.op) && (((sb (h.field)).toList == (sb (h.field)).toList) && (((sb (h.text)).toList == (sb (h.text)).toList) && ((h.edits == h.edits) && ((h.exact == h.exact) && ((h.lo == 0) && ((h.hi == 0) && true)))))))) (by kernel_rfl) (noth_f h)) hS233 ?_
                      refine GoH.takeV 11 (.bool (nothP h true true false)) (.bool (nothP h true true false)) (some 92) (fun W_ => by kernel_rfl) rfl hS233 ?_
                      refine GoH.takeV 12 (.bool (nothP h true true false)) (.bool (nothP h true true false)) (some 2) (fun W_ => by kernel_rfl) rfl hS233 ?_
                      refine GoH.done [2] [(2, .bool (nothP h true true false))] (by kernel_rfl) (by kernel_rfl) ?_
                      have hM234 : Mem [] w0 w230 [] := hM232.sub (cn (cn (List.Sublist.refl _)))
                      refine GoS.ret (fn := Try.f19) (v := (.bool (nothP h true true false))) Try.func19 (by kernel_rfl) ?_
                      rw [hR]
                      have hall : rightL q.l = true := by rw [← tk_all (l := q.l) (i := i) (by omega)]; exact hRt
                      have hro := right_of hall
                      rw [← he] at hro
                      exact ⟨ret_bool (by rw [hro, node_word (by omega) (by have z := h204; simpa using z) (of_decide_eq_true (by have z := h210; simpa [wordsP] using z)) (by omega), if_pos (by omega)]), hM234.sub (List.nil_sublist _)⟩
                    ·
                      have h225p : ¬ ((((List.length L) : Nat) : Int) = 0) := p_ne h225
                      refine GoH.takeV 5 (.bool ((((List.length L) : Nat) : Int) == 0)) (.bool false) (some 86) (fun W_ => by kernel_rfl) (congrArg Value.bool h225) hS224 ?_
                      refine GoH.skipF 6 (some 87) (by kernel_rfl) hS224 ?_
                      refine GoH.skipF 7 (some 88) (by kernel_rfl) hS224 ?_
                      refine GoH.skipF 8 (some 89) (by kernel_rfl) hS224 ?_
                      refine GoH.skipF 9 (some 90) (by kernel_rfl) hS224 ?_
                      refine GoH.skipF 10 (some 91) (by kernel_rfl) hS224 ?_
                      refine GoH.takeV 11 (.bool false) (.bool false) (some 92) (fun W_ => by kernel_rfl) rfl hS224 ?_
                      refine GoH.takeV 12 (.bool false) (.bool false) (some 2) (fun W_ => by kernel_rfl) rfl hS224 ?_
                      refine GoH.done [2] [(2, .bool false)] (by kernel_rfl) (by kernel_rfl) ?_
                      have hM235 : Mem [] w0 w221 [] := hM223.sub (cn (cn (List.Sublist.refl _)))
                      refine GoS.ret (fn := Try.f19) (v := (.bool false)) Try.func19 (by kernel_rfl) ?_
                      rw [hR]
                      have hall : rightL q.l = true := by rw [← tk_all (l := q.l) (i := i) (by omega)]; exact hRt
                      have hro := right_of hall
                      rw [← he] at hro
                      exact ⟨ret_bool (by rw [hro, node_many (by omega) (by omega)]), hM235.sub (List.nil_sublist _)⟩
              ·
                have h189p : ¬ (h.op = 4) := p_ne h189
                refine GoS.run [1, 5, 6] [.n] _ [.code (csub (cd Try.f19) [1,1,1,1,0,1,0,1,0,1,1]), .inBlock 2, .code (csub (cd Try.f19) [1,1,1,1,1])] [(1, pq b), (5, pq b2), (6, .int .i64 0)] w184 (by kernel_rfl) .nil ?_
                have o212 : (Instr.loadAt 9 (.pointer (some (⟨b, 1, none⟩)))).run Try.prog w184 = .ok (.string (sb (h.field))) w184 := c_load pE9 (hM187.rd 1 rfl) (cel_obj b 1) rfl
                refine GoS.run [1, 5, 6, 47] [.n, .n, .n, .h (.string (sb (h.field)))] _ [.inRegion (cops (csub (cd Try.f19) [1,1,1,1,0,1,0,1,0,1,1,0])) [2,3,4,5,6,7,8], .code (csub (cd Try.f19) [1,1,1,1,0,1,0,1,0,1,1,1]), .inBlock 2, .code (csub (cd Try.f19) [1,1,1,1,1])] [(1, pq b), (5, pq b2), (6, .int .i64 0), (47, .string (sb (h.field)))] w184 (by kernel_rfl) (.cons o212 .nil) ?_
                refine GoS.call [1, 5, 6] 22 #[.string (sb (h.field))] (some 48) [.inRegion (cops (csub (cd Try.f19) [1,1,1,1,0,1,0,1,0,1,1,0])) [3,4,5,6,7,8], .code (csub (cd Try.f19) [1,1,1,1,0,1,0,1,0,1,1,1]), .inBlock 2, .code (csub (cd Try.f19) [1,1,1,1,1])] [(1, pq b), (5, pq b2), (6, .int .i64 0)] (by kernel_rfl) (name_c (h.field) (by rw [he]; omega) w184) ?_
                rintro _ _ ⟨rfl, rfl⟩
                refine ⟨_, rfl, ?_⟩
                refine GoS.run [1, 5, 6, 50] [.n, .n] _ [.inRegion (cops (csub (cd Try.f19) [1,1,1,1,0,1,0,1,0,1,1,0])) [5,6,7,8], .code (csub (cd Try.f19) [1,1,1,1,0,1,0,1,0,1,1,1]), .inBlock 2, .code (csub (cd Try.f19) [1,1,1,1,1])] [(1, pq b), (5, pq b2), (6, .int .i64 0), (50, .bool (!(nameP (h.field))))] w184 (by kernel_rfl) .nil ?_
                refine GoS.fork 50 (!(nameP (h.field))) (by kernel_rfl) (fun h213 => ?_) (fun h213 => ?_)
                ·
                  refine GoS.run [1, 5, 6, 54] [.n, .n, .n, .n] _ [.inRegion (cops (csub (cd Try.f19) [1,1,1,1,0,1,0,1,0,1,1,0])) [], .code (csub (cd Try.f19) [1,1,1,1,0,1,0,1,0,1,1,1]), .inBlock 2, .code (csub (cd Try.f19) [1,1,1,1,1])] [(1, pq b), (5, pq b2), (6, .int .i64 0), (54, .bool true)] w184 (by kernel_rfl) .nil ?_
                  have hM218 : Mem [] w0 w184 [] := hM187.sub (cn (cn (List.Sublist.refl _)))
                  refine GoS.run [2] [.n, .n, .n, .n, .n, .n] _ [.code (csub (cd Try.f19) [1,1,1,1,0,1,0,1,0,1,1,1,0,1]), .inBlock 2, .code (csub (cd Try.f19) [1,1,1,1,1])] [(2, .bool false)] w184 (by kernel_rfl) .nil ?_
                  refine GoS.ret (fn := Try.f19) (v := (.bool false)) Try.func19 (by kernel_rfl) ?_
                  rw [hR]
                  have hall : rightL q.l = true := by rw [← tk_all (l := q.l) (i := i) (by omega)]; exact hRt
                  have hro := right_of hall
                  rw [← he] at hro
                  exact ⟨ret_bool (by rw [hro, node_name (by omega) (by have z := h213; simpa using z)]), hM218.sub (List.nil_sublist _)⟩
                ·
                  have o214 : (Instr.loadAt 25 (pq b)).run Try.prog w184 = .ok ((qA h v)) w184 := c_loads (ys := (qR h v)) aE25 (hM187.rd 1 rfl) (cel_obj b 0) rfl (by intro j u hj; match j, hj with | 0, hj => exact hj | 1, hj => exact hj | 2, hj => exact hj | 3, hj => exact hj | 4, hj => exact hj | 5, hj => exact hj | 6, hj => exact hj | 7, hj => exact hj | n + 8, hj => cases hj)
                  refine GoS.run [1, 5, 6, 50, 51] [.h ((qA h v))] _ [.inRegion (cops (csub (cd Try.f19) [1,1,1,1,0,1,0,1,0,1,1,0])) [6,7,8], .code (csub (cd Try.f19) [1,1,1,1,0,1,0,1,0,1,1,1]), .inBlock 2, .code (csub (cd Try.f19) [1,1,1,1,1])] [(1, pq b), (5, pq b2), (6, .int .i64 0), (50, .bool false), (51, (qA h v))] w184 (by kernel_rfl) (.cons o214 .nil) ?_
                  refine GoS.call [1, 5, 6, 50] 23 #[(qA h v)] (some 52) [.inRegion (cops (csub (cd Try.f19) [1,1,1,1,0,1,0,1,0,1,1,0])) [7,8], .code (csub (cd Try.f19) [1,1,1,1,0,1,0,1,0,1,1,1]), .inBlock 2, .code (csub (cd Try.f19) [1,1,1,1,1])] [(1, pq b), (5, pq b2), (6, .int .i64 0), (50, .bool false)] (by kernel_rfl) (words_c q h he v (hq.kept hM187.kept) (by omega)) ?_
                  rintro _ w215 ⟨rfl, m216⟩
                  refine ⟨_, rfl, ?_⟩
                  have hM217 : Mem [] w0 w215 [⟨25, 8, (obj b2), 1, [.int .i64 (h.op), .string (sb (h.field)), .string (sb (h.text)), .int .i64 0, .int .i64 0, .int .u64 0, .int .u64 0, v]⟩, ⟨25, 8, (obj b), 1, (qR h v)⟩] := Mem.join (R := []) hM187 m216
                  refine GoS.run [1, 5, 6, 54] [.n, .n] _ [.inRegion (cops (csub (cd Try.f19) [1,1,1,1,0,1,0,1,0,1,1,0])) [], .code (csub (cd Try.f19) [1,1,1,1,0,1,0,1,0,1,1,1]), .inBlock 2, .code (csub (cd Try.f19) [1,1,1,1,1])] [(1, pq b), (5, pq b2), (6, .int .i64 0), (54, .bool (!(wordsP h)))] w215 (by kernel_rfl) .nil ?_
                  refine GoS.run [1, 5, 6, 54] [.n] _ [.code (csub (cd Try.f19) [1,1,1,1,0,1,0,1,0,1,1,1]), .inBlock 2, .code (csub (cd Try.f19) [1,1,1,1,1])] [(1, pq b), (5, pq b2), (6, .int .i64 0), (54, .bool (!(wordsP h)))] w215 (by kernel_rfl) .nil ?_
                  refine GoS.cond (!(wordsP h)) [.code (csub (cd Try.f19) [1,1,1,1,0,1,0,1,0,1,1,1,0]), .inBlock 2, .code (csub (cd Try.f19) [1,1,1,1,1])] [.code (csub (cd Try.f19) [1,1,1,1,0,1,0,1,0,1,1,1,1]), .inBlock 2, .code (csub (cd Try.f19) [1,1,1,1,1])] (by kernel_rfl) (fun h219 => ?_) (fun h219 => ?_)
                  ·
                    have hM220 : Mem [] w0 w215 [] := hM217.sub (cn (cn (List.Sublist.refl _)))
                    refine GoS.run [2] [.n, .n, .n, .n] _ [.code (csub (cd Try.f19) [1,1,1,1,0,1,0,1,0,1,1,1,0,1]), .inBlock 2, .code (csub (cd Try.f19) [1,1,1,1,1])] [(2, .bool false)] w215 (by kernel_rfl) .nil ?_
                    refine GoS.ret (fn := Try.f19) (v := (.bool false)) Try.func19 (by kernel_rfl) ?_
                    rw [hR]
                    have hall : rightL q.l = true := by rw [← tk_all (l := q.l) (i := i) (by omega)]; exact hRt
                    have hro := right_of hall
                    rw [← he] at hro
                    exact ⟨ret_bool (by rw [hro, node_noword (by omega) (of_decide_eq_false (by have z := h219; simpa [wordsP] using z))]), hM220.sub (List.nil_sublist _)⟩
                  ·
                    refine GoS.run [1, 5, 6] [.n] _ [.inBlock 2, .code (csub (cd Try.f19) [1,1,1,1,1])] [(1, pq b), (5, pq b2), (6, .int .i64 0)] w215 (by kernel_rfl) .nil ?_
                    refine GoS.run [1, 5, 6] [.n, .n] _ [.code (csub (cd Try.f19) [1,1,1,1,1,0]), .code (csub (cd Try.f19) [1,1,1,1,1,1])] [(1, pq b), (5, pq b2), (6, .int .i64 0)] w215 (by kernel_rfl) .nil ?_
                    obtain ⟨w236, hw237⟩ : ∃ w_, (w215).drewN 1 = w_ := ⟨_, rfl⟩
                    refine GoS.held (fun W_ => Mem [] w0 W_ [⟨25, 8, (obj b2), 1, [.int .i64 (h.op), .string (sb (h.field)), .string (sb (h.text)), .int .i64 0, .int .i64 0, .int .u64 0, .int .u64 0, v]⟩, ⟨25, 8, (obj b), 1, (qR h v)⟩]) [] 31 (by kernel_rfl) (by kernel_rfl) 13 (by kernel_rfl) ?_
                    rw [hw237]
                    have hM238 : Mem [] w0 w236 [⟨25, 8, (obj b2), 1, [.int .i64 (h.op), .string (sb (h.field)), .string (sb (h.text)), .int .i64 0, .int .i64 0, .int .u64 0, .int .u64 0, v]⟩, ⟨25, 8, (obj b), 1, (qR h v)⟩] := hw237 ▸ hM217.ext (Kept.drewN _ _ 1)
                    have hS239 : Mem [] w0 w236 [⟨25, 8, (obj b2), 1, [.int .i64 (h.op), .string (sb (h.field)), .string (sb (h.text)), .int .i64 0, .int .i64 0, .int .u64 0, .int .u64 0, v]⟩, ⟨25, 8, (obj b), 1, (qR h v)⟩] := hM238.sub (cc (cc (List.Sublist.refl _)))
                    refine GoH.takeV 0 (.pointer (some (⟨b, 7, none⟩))) (.pointer (some (⟨b, 7, none⟩))) (some 81) (fun W_ => by kernel_rfl) rfl hS239 ?_
                    refine GoH.takeF 1 (v) (fun W_ => (Instr.loadAt 23 (.pointer (some (⟨b, 7, none⟩)))).run Try.prog W_ = .ok (v) W_) (some 82) (fun W_ => by kernel_rfl) (fun W_ hW_ => c_load pE23 (hW_.rd 1 rfl) (cel_obj b 7) rfl) hS239 ?_
                    refine GoH.takeF 2 (.int .i64 (((List.length L) : Nat) : Int)) (fun W_ => (Builtin.len_ #[23] 3 #[v]).run Try.prog W_ = .ok (.int .i64 (((List.length L) : Nat) : Int)) W_) (some 83) (fun W_ => by kernel_rfl) (fun W_ hW_ => f_slen sT23 (hr.kept0 hW_.kept) 3 _) hS239 ?_
                    refine GoH.takeV 3 (.int .i64 0) (.int .i64 0) (some 84) (fun W_ => by kernel_rfl) rfl hS239 ?_
                    refine GoH.takeV 4 (.bool ((((List.length L) : Nat) : Int) == 0)) (.bool ((((List.length L) : Nat) : Int) == 0)) (some 85) (fun W_ => by kernel_rfl) rfl hS239 ?_
                    rcases Bool.eq_false_or_eq_true ((((List.length L) : Nat) : Int) == 0) with h240 | h240
                    ·
                      have h240p : (((List.length L) : Nat) : Int) = 0 := eq_of_beq h240
                      refine GoH.takeV 5 (.bool ((((List.length L) : Nat) : Int) == 0)) (.bool true) (some 86) (fun W_ => by kernel_rfl) (congrArg Value.bool h240) hS239 ?_
                      refine GoH.takeF 6 ((qA h v)) (fun W_ => (Instr.loadAt 25 (pq b)).run Try.prog W_ = .ok ((qA h v)) W_) (some 87) (fun W_ => by kernel_rfl) (fun W_ hW_ => c_loads (ys := (qR h v)) aE25 (hW_.rd 1 rfl) (cel_obj b 0) rfl (by intro j u hj; match j, hj with | 0, hj => exact hj | 1, hj => exact hj | 2, hj => exact hj | 3, hj => exact hj | 4, hj => exact hj | 5, hj => exact hj | 6, hj => exact hj | 7, hj => exact hj | n + 8, hj => cases hj)) hS239 ?_
                      refine GoH.takeF 8 (.agg #[.int .i64 (h.op), .string (sb (h.field)), .string (sb (h.text)), .int .i64 0, .int .i64 0, .int .u64 0, .int .u64 0, v]) (fun W_ => (Instr.loadAt 25 (pq b2)).run Try.prog W_ = .ok (.agg #[.int .i64 (h.op), .string (sb (h.field)), .string (sb (h.text)), .int .i64 0, .int .i64 0, .int .u64 0, .int .u64 0, v]) W_) (some 89) (fun W_ => by kernel_rfl) (fun W_ hW_ => c_loads (ys := [.int .i64 (h.op), .string (sb (h.field)), .string (sb (h.text)), .int .i64 0, .int .i64 0, .int .u64 0, .int .u64 0, v]) aE25 (hW_.rd 0 rfl) (cel_obj b2 0) rfl (by intro j u hj; match j, hj with | 0, hj => exact hj | 1, hj => exact hj | 2, hj => exact hj | 3, hj => exact hj | 4, hj => exact hj | 5, hj => exact hj | 6, hj => exact hj | 7, hj => exact hj | n + 8, hj => cases hj)) hS239 ?_
                      refine GoH.callF 7 21 #[(qA h v)] (some 88) (by kernel_rfl) (flat_c (w := w236) h v) ?_
                      rintro _ w241 ⟨rfl, m242⟩
                      have hM243 : Mem [] w0 w241 [⟨25, 8, (obj b2), 1, [.int .i64 (h.op), .string (sb (h.field)), .string (sb (h.text)), .int .i64 0, .int .i64 0, .int .u64 0, .int .u64 0, v]⟩, ⟨25, 8, (obj b), 1, (qR h v)⟩] := Mem.join (R := []) hM238 m242
                      have hS244 : Mem [] w0 w241 [⟨25, 8, (obj b2), 1, [.int .i64 (h.op), .string (sb (h.field)), .string (sb (h.text)), .int .i64 0, .int .i64 0, .int .u64 0, .int .u64 0, v]⟩, ⟨25, 8, (obj b), 1, (qR h v)⟩] := hM243.sub (cc (cc (List.Sublist.refl _)))
                      refine ⟨(qH h), rfl, .inr hS244, ?_⟩
                      refine GoH.callF 9 21 #[.agg #[.int .i64 (h.op), .string (sb (h.field)), .string (sb (h.text)), .int .i64 0, .int .i64 0, .int .u64 0, .int .u64 0, v]] (some 90) (by kernel_rfl) (flat_c (w := w241) (Hd.mk (h.op) (h.field) (h.text) 0 0 0 0) v) ?_
                      rintro _ w245 ⟨rfl, m246⟩
                      have hM247 : Mem [] w0 w245 [⟨25, 8, (obj b2), 1, [.int .i64 (h.op), .string (sb (h.field)), .string (sb (h.text)), .int .i64 0, .int .i64 0, .int .u64 0, .int .u64 0, v]⟩, ⟨25, 8, (obj b), 1, (qR h v)⟩] := Mem.join (R := []) hM243 m246
                      have hS248 : Mem [] w0 w245 [⟨25, 8, (obj b2), 1, [.int .i64 (h.op), .string (sb (h.field)), .string (sb (h.text)), .int .i64 0, .int .i64 0, .int .u64 0, .int .u64 0, v]⟩, ⟨25, 8, (obj b), 1, (qR h v)⟩] := hM247.sub (cc (cc (List.Sublist.refl _)))
                      refine ⟨.agg #[.int .i64 (h.op), .string (sb (h.field)), .string (sb (h.text)), .int .i64 0, .int .i64 0, .int .u64 0, .int .u64 0], rfl, .inr hS248, ?_⟩
                      refine GoH.takeF 10 (.bool (nothP h true false false)) (fun W_ => Try.prog.eqGuardType Try.prog.depth 38 = false ∧ (binOp .eql 38 ((qH h)) (.agg #[.int .i64 (h.op), .string (sb (h.field)), .string (sb (h.text)), .int .i64 0, .int .i64 0, .int .u64 0, .int .u64 0])).run Try.prog W_ = .ok (.bool (nothP h true false false)) W_) (some 91) (fun W_ => by kernel_rfl) (fun W_ hW_ => f_ageq eT38 (xs := [.int .i64 (h.op), .string (sb (h.field)), .string (sb (h.text)), .int .i64 (h.edits), .int .i64 (h.exact), .int .u64 (h.lo), .int .u64 (h.hi)]) (ys := [.int .i64 (h.op), .string (sb (h.field)), .string (sb (h.text)), .int .i64 0, .int .i64 0, .int .u64 0, .int .u64 0]) (r := ((h.op == h.op) && (((sb (h.field)).toList == (sb (h.field)).toList) && (((sb (h.text)).toList == (sb (h.text)).toList) && ((h.edits == 0) && ((h.exact == 0) && ((h.lo == 0) && ((h.hi == 0) && true)))))))) (by kernel_rfl) (noth_t h)) hS248 ?_
                      refine GoH.takeV 11 (.bool (nothP h true false false)) (.bool (nothP h true false false)) (some 92) (fun W_ => by kernel_rfl) rfl hS248 ?_
                      refine GoH.takeV 12 (.bool (nothP h true false false)) (.bool (nothP h true false false)) (some 2) (fun W_ => by kernel_rfl) rfl hS248 ?_
                      refine GoH.done [2] [(2, .bool (nothP h true false false))] (by kernel_rfl) (by kernel_rfl) ?_
                      have hM249 : Mem [] w0 w245 [] := hM247.sub (cn (cn (List.Sublist.refl _)))
                      refine GoS.ret (fn := Try.f19) (v := (.bool (nothP h true false false))) Try.func19 (by kernel_rfl) ?_
                      rw [hR]
                      have hall : rightL q.l = true := by rw [← tk_all (l := q.l) (i := i) (by omega)]; exact hRt
                      have hro := right_of hall
                      rw [← he] at hro
                      exact ⟨ret_bool (by rw [hro, node_word (by omega) (by have z := h213; simpa using z) (of_decide_eq_true (by have z := h219; simpa [wordsP] using z)) (by omega), if_neg (by omega)]), hM249.sub (List.nil_sublist _)⟩
                    ·
                      have h240p : ¬ ((((List.length L) : Nat) : Int) = 0) := p_ne h240
                      refine GoH.takeV 5 (.bool ((((List.length L) : Nat) : Int) == 0)) (.bool false) (some 86) (fun W_ => by kernel_rfl) (congrArg Value.bool h240) hS239 ?_
                      refine GoH.skipF 6 (some 87) (by kernel_rfl) hS239 ?_
                      refine GoH.skipF 7 (some 88) (by kernel_rfl) hS239 ?_
                      refine GoH.skipF 8 (some 89) (by kernel_rfl) hS239 ?_
                      refine GoH.skipF 9 (some 90) (by kernel_rfl) hS239 ?_
                      refine GoH.skipF 10 (some 91) (by kernel_rfl) hS239 ?_
                      refine GoH.takeV 11 (.bool false) (.bool false) (some 92) (fun W_ => by kernel_rfl) rfl hS239 ?_
                      refine GoH.takeV 12 (.bool false) (.bool false) (some 2) (fun W_ => by kernel_rfl) rfl hS239 ?_
                      refine GoH.done [2] [(2, .bool false)] (by kernel_rfl) (by kernel_rfl) ?_
                      have hM250 : Mem [] w0 w236 [] := hM238.sub (cn (cn (List.Sublist.refl _)))
                      refine GoS.ret (fn := Try.f19) (v := (.bool false)) Try.func19 (by kernel_rfl) ?_
                      rw [hR]
                      have hall : rightL q.l = true := by rw [← tk_all (l := q.l) (i := i) (by omega)]; exact hRt
                      have hro := right_of hall
                      rw [← he] at hro
                      exact ⟨ret_bool (by rw [hro, node_many (by omega) (by omega)]), hM250.sub (List.nil_sublist _)⟩
            ·
              rw [h18] at h174; cases h174
          ·
            have h18p : ¬ (h.op = 3) := p_ne h18
            refine GoS.run [1, 5, 6, 24, 25] [.n, .n, .n, .n, .n] _ [.code (csub (cd Try.f19) [1,1,1,1,0,1,0,0,1,1,1,1,1,1,1]), .code (csub (cd Try.f19) [1,1,1,1,0,1,0,1]), .inBlock 2, .code (csub (cd Try.f19) [1,1,1,1,1])] [(1, pq b), (5, pq b2), (6, .int .i64 0), (24, .int .i64 (h.op)), (25, .bool (h.op == 4))] w7 (by kernel_rfl) .nil ?_
            refine GoS.cond (h.op == 4) [.code (csub (cd Try.f19) [1,1,1,1,0,1,0,0,1,1,1,1,1,1,1,0]), .code (csub (cd Try.f19) [1,1,1,1,0,1,0,1]), .inBlock 2, .code (csub (cd Try.f19) [1,1,1,1,1])] [.code (csub (cd Try.f19) [1,1,1,1,0,1,0,0,1,1,1,1,1,1,1,1]), .code (csub (cd Try.f19) [1,1,1,1,0,1,0,1]), .inBlock 2, .code (csub (cd Try.f19) [1,1,1,1,1])] (by kernel_rfl) (fun h19 => ?_) (fun h19 => ?_)
            ·
              have h19p : h.op = 4 := eq_of_beq h19
              refine GoS.run [1, 5, 6, 24, 25] [.n] _ [.code (csub (cd Try.f19) [1,1,1,1,0,1,0,1]), .inBlock 2, .code (csub (cd Try.f19) [1,1,1,1,1])] [(1, pq b), (5, pq b2), (6, .int .i64 0), (24, .int .i64 (h.op)), (25, .bool (h.op == 4))] w7 (by kernel_rfl) .nil ?_
              refine GoS.cond (h.op == 4) [.code (csub (cd Try.f19) [1,1,1,1,0,1,0,1,0]), .inBlock 2, .code (csub (cd Try.f19) [1,1,1,1,1])] [.code (csub (cd Try.f19) [1,1,1,1,0,1,0,1,1]), .inBlock 2, .code (csub (cd Try.f19) [1,1,1,1,1])] (by kernel_rfl) (fun h251 => ?_) (fun h251 => ?_)
              ·
                have h251p : h.op = 4 := eq_of_beq h251
                refine GoS.run [1, 5, 6] [.n] _ [.code (csub (cd Try.f19) [1,1,1,1,0,1,0,1,0,0]), .code (csub (cd Try.f19) [1,1,1,1,0,1,0,1,0,1]), .inBlock 2, .code (csub (cd Try.f19) [1,1,1,1,1])] [(1, pq b), (5, pq b2), (6, .int .i64 0)] w7 (by kernel_rfl) .nil ?_
                obtain ⟨w252, hw253⟩ : ∃ w_, (w7).drewN 1 = w_ := ⟨_, rfl⟩
                refine GoS.held (fun W_ => Mem [] w0 W_ [⟨25, 8, (obj b), 1, (qR h v)⟩]) [7] 16 (by kernel_rfl) (by kernel_rfl) 8 (by kernel_rfl) ?_
                rw [hw253]
                have hM254 : Mem [] w0 w252 [⟨25, 8, (obj b2), 1, [.int .i64 (h.op), .string (sb ([])), .string (sb ([])), .int .i64 0, .int .i64 0, .int .u64 0, .int .u64 0, v]⟩, ⟨25, 8, (obj b), 1, (qR h v)⟩] := hw253 ▸ hM10.ext (Kept.drewN _ _ 1)
                have hS255 : Mem [] w0 w252 [⟨25, 8, (obj b), 1, (qR h v)⟩] := hM254.sub (cn (cc (List.Sublist.refl _)))
                refine GoH.takeV 0 (.pointer (some (⟨b, 1, none⟩))) (.pointer (some (⟨b, 1, none⟩))) (some 31) (fun W_ => by kernel_rfl) rfl hS255 ?_
                refine GoH.takeF 1 (.string (sb (h.field))) (fun W_ => (Instr.loadAt 9 (.pointer (some (⟨b, 1, none⟩)))).run Try.prog W_ = .ok (.string (sb (h.field))) W_) (some 32) (fun W_ => by kernel_rfl) (fun W_ hW_ => c_load pE9 (hW_.rd 0 rfl) (cel_obj b 1) rfl) hS255 ?_
                refine GoH.takeV 2 (.pointer (some (⟨b, 2, none⟩))) (.pointer (some (⟨b, 2, none⟩))) (some 33) (fun W_ => by kernel_rfl) rfl hS255 ?_
                refine GoH.takeF 3 (.string (sb (h.text))) (fun W_ => (Instr.loadAt 9 (.pointer (some (⟨b, 2, none⟩)))).run Try.prog W_ = .ok (.string (sb (h.text))) W_) (some 34) (fun W_ => by kernel_rfl) (fun W_ hW_ => c_load pE9 (hW_.rd 0 rfl) (cel_obj b 2) rfl) hS255 ?_
                refine GoH.takeV 4 (.pointer (some (⟨b2, 1, none⟩))) (.pointer (some (⟨b2, 1, none⟩))) (some 35) (fun W_ => by kernel_rfl) rfl hS255 ?_
                obtain ⟨w256, hr257, hM258⟩ := c_store (u := .string (sb (h.field))) (by kernel_rfl) hM254 0 rfl (cel_obj b2 1) (by decide) rfl rfl
                have hM259 : Mem [] w0 w256 [⟨25, 8, (obj b2), 1, [.int .i64 (h.op), .string (sb (h.field)), .string (sb ([])), .int .i64 0, .int .i64 0, .int .u64 0, .int .u64 0, v]⟩, ⟨25, 8, (obj b), 1, (qR h v)⟩] := hM258
                have hS260 : Mem [] w0 w256 [⟨25, 8, (obj b), 1, (qR h v)⟩] := hM259.sub (cn (cc (List.Sublist.refl _)))
                refine GoH.stepF 5 (undef) (w256) ((Instr.storeAt 9 (.pointer (some (⟨b2, 1, none⟩))) (.string (sb (h.field)))).run Try.prog w252 = .ok () w256 ∧ undef = undef) none (by kernel_rfl) (⟨hr257, rfl⟩) (.inr hS260) ?_
                refine GoH.takeV 6 (.pointer (some (⟨b2, 2, none⟩))) (.pointer (some (⟨b2, 2, none⟩))) (some 36) (fun W_ => by kernel_rfl) rfl hS260 ?_
                obtain ⟨w261, hr262, hM263⟩ := c_store (u := .string (sb (h.text))) (by kernel_rfl) hM259 0 rfl (cel_obj b2 2) (by decide) rfl rfl
                have hM264 : Mem [] w0 w261 [⟨25, 8, (obj b2), 1, [.int .i64 (h.op), .string (sb (h.field)), .string (sb (h.text)), .int .i64 0, .int .i64 0, .int .u64 0, .int .u64 0, v]⟩, ⟨25, 8, (obj b), 1, (qR h v)⟩] := hM263
                refine GoH.stepF 7 (undef) (w261) ((Instr.storeAt 9 (.pointer (some (⟨b2, 2, none⟩))) (.string (sb (h.text)))).run Try.prog w256 = .ok () w261 ∧ undef = undef) none (by kernel_rfl) (⟨hr262, rfl⟩) (.inl rfl) ?_
                refine GoH.done [1, 5, 6] [(1, pq b), (5, pq b2), (6, .int .i64 0)] (by kernel_rfl) (by kernel_rfl) ?_
                have o265 : (Instr.loadAt 3 (pq b)).run Try.prog w261 = .ok (.int .i64 (h.op)) w261 := c_load pE3 (hM264.rd 1 rfl) (cel_obj b 0) rfl
                refine GoS.run [1, 5, 6, 39] [.n, .n, .n, .n, .h (.int .i64 (h.op)), .n, .n] _ [.code (csub (cd Try.f19) [1,1,1,1,0,1,0,1,0,1,0,1]), .code (csub (cd Try.f19) [1,1,1,1,0,1,0,1,0,1,1]), .inBlock 2, .code (csub (cd Try.f19) [1,1,1,1,1])] [(1, pq b), (5, pq b2), (6, .int .i64 0), (39, .bool (h.op == 4))] w261 (by kernel_rfl) (.cons o265 .nil) ?_
                refine GoS.cond (h.op == 4) [.code (csub (cd Try.f19) [1,1,1,1,0,1,0,1,0,1,0,1,0]), .code (csub (cd Try.f19) [1,1,1,1,0,1,0,1,0,1,1]), .inBlock 2, .code (csub (cd Try.f19) [1,1,1,1,1])] [.code (csub (cd Try.f19) [1,1,1,1,0,1,0,1,0,1,0,1,1]), .code (csub (cd Try.f19) [1,1,1,1,0,1,0,1,0,1,1]), .inBlock 2, .code (csub (cd Try.f19) [1,1,1,1,1])] (by kernel_rfl) (fun h266 => ?_) (fun h266 => ?_)
                ·
                  have h266p : h.op = 4 := eq_of_beq h266
                  obtain ⟨w267, hw268⟩ : ∃ w_, (w261).drewN 1 = w_ := ⟨_, rfl⟩
                  refine GoS.held (fun W_ => Mem [] w0 W_ [⟨25, 8, (obj b), 1, (qR h v)⟩]) [7] 18 (by kernel_rfl) (by kernel_rfl) 8 (by kernel_rfl) ?_
                  rw [hw268]
                  have hM269 : Mem [] w0 w267 [⟨25, 8, (obj b2), 1, [.int .i64 (h.op), .string (sb (h.field)), .string (sb (h.text)), .int .i64 0, .int .i64 0, .int .u64 0, .int .u64 0, v]⟩, ⟨25, 8, (obj b), 1, (qR h v)⟩] := hw268 ▸ hM264.ext (Kept.drewN _ _ 1)
                  have hS270 : Mem [] w0 w267 [⟨25, 8, (obj b), 1, (qR h v)⟩] := hM269.sub (cn (cc (List.Sublist.refl _)))
                  refine GoH.takeV 0 (.pointer (some (⟨b, 3, none⟩))) (.pointer (some (⟨b, 3, none⟩))) (some 40) (fun W_ => by kernel_rfl) rfl hS270 ?_
                  refine GoH.takeF 1 (.int .i64 (h.edits)) (fun W_ => (Instr.loadAt 3 (.pointer (some (⟨b, 3, none⟩)))).run Try.prog W_ = .ok (.int .i64 (h.edits)) W_) (some 41) (fun W_ => by kernel_rfl) (fun W_ hW_ => c_load pE3 (hW_.rd 0 rfl) (cel_obj b 3) rfl) hS270 ?_
                  refine GoH.takeV 2 (.pointer (some (⟨b, 4, none⟩))) (.pointer (some (⟨b, 4, none⟩))) (some 42) (fun W_ => by kernel_rfl) rfl hS270 ?_
                  refine GoH.takeF 3 (.int .i64 (h.exact)) (fun W_ => (Instr.loadAt 3 (.pointer (some (⟨b, 4, none⟩)))).run Try.prog W_ = .ok (.int .i64 (h.exact)) W_) (some 43) (fun W_ => by kernel_rfl) (fun W_ hW_ => c_load pE3 (hW_.rd 0 rfl) (cel_obj b 4) rfl) hS270 ?_
                  refine GoH.takeV 4 (.pointer (some (⟨b2, 3, none⟩))) (.pointer (some (⟨b2, 3, none⟩))) (some 44) (fun W_ => by kernel_rfl) rfl hS270 ?_
                  obtain ⟨w271, hr272, hM273⟩ := c_store (u := .int .i64 (h.edits)) (by kernel_rfl) hM269 0 rfl (cel_obj b2 3) (by decide) rfl rfl
                  have hM274 : Mem [] w0 w271 [⟨25, 8, (obj b2), 1, [.int .i64 (h.op), .string (sb (h.field)), .string (sb (h.text)), .int .i64 (h.edits), .int .i64 0, .int .u64 0, .int .u64 0, v]⟩, ⟨25, 8, (obj b), 1, (qR h v)⟩] := hM273
                  have hS275 : Mem [] w0 w271 [⟨25, 8, (obj b), 1, (qR h v)⟩] := hM274.sub (cn (cc (List.Sublist.refl _)))
                  refine GoH.stepF 5 (undef) (w271) ((Instr.storeAt 3 (.pointer (some (⟨b2, 3, none⟩))) (.int .i64 (h.edits))).run Try.prog w267 = .ok () w271 ∧ undef = undef) none (by kernel_rfl) (⟨hr272, rfl⟩) (.inr hS275) ?_
                  refine GoH.takeV 6 (.pointer (some (⟨b2, 4, none⟩))) (.pointer (some (⟨b2, 4, none⟩))) (some 45) (fun W_ => by kernel_rfl) rfl hS275 ?_
                  obtain ⟨w276, hr277, hM278⟩ := c_store (u := .int .i64 (h.exact)) (by kernel_rfl) hM274 0 rfl (cel_obj b2 4) (by decide) rfl rfl
                  have hM279 : Mem [] w0 w276 [⟨25, 8, (obj b2), 1, [.int .i64 (h.op), .string (sb (h.field)), .string (sb (h.text)), .int .i64 (h.edits), .int .i64 (h.exact), .int .u64 0, .int .u64 0, v]⟩, ⟨25, 8, (obj b), 1, (qR h v)⟩] := hM278
                  refine GoH.stepF 7 (undef) (w276) ((Instr.storeAt 3 (.pointer (some (⟨b2, 4, none⟩))) (.int .i64 (h.exact))).run Try.prog w271 = .ok () w276 ∧ undef = undef) none (by kernel_rfl) (⟨hr277, rfl⟩) (.inl rfl) ?_
                  refine GoH.done [1, 5, 6] [(1, pq b), (5, pq b2), (6, .int .i64 0)] (by kernel_rfl) (by kernel_rfl) ?_
                  have o280 : (Instr.loadAt 9 (.pointer (some (⟨b, 1, none⟩)))).run Try.prog w276 = .ok (.string (sb (h.field))) w276 := c_load pE9 (hM279.rd 1 rfl) (cel_obj b 1) rfl
                  refine GoS.run [1, 5, 6, 47] [.n, .n, .n, .h (.string (sb (h.field)))] _ [.inRegion (cops (csub (cd Try.f19) [1,1,1,1,0,1,0,1,0,1,1,0])) [2,3,4,5,6,7,8], .code (csub (cd Try.f19) [1,1,1,1,0,1,0,1,0,1,1,1]), .inBlock 2, .code (csub (cd Try.f19) [1,1,1,1,1])] [(1, pq b), (5, pq b2), (6, .int .i64 0), (47, .string (sb (h.field)))] w276 (by kernel_rfl) (.cons o280 .nil) ?_
                  refine GoS.call [1, 5, 6] 22 #[.string (sb (h.field))] (some 48) [.inRegion (cops (csub (cd Try.f19) [1,1,1,1,0,1,0,1,0,1,1,0])) [3,4,5,6,7,8], .code (csub (cd Try.f19) [1,1,1,1,0,1,0,1,0,1,1,1]), .inBlock 2, .code (csub (cd Try.f19) [1,1,1,1,1])] [(1, pq b), (5, pq b2), (6, .int .i64 0)] (by kernel_rfl) (name_c (h.field) (by rw [he]; omega) w276) ?_
                  rintro _ _ ⟨rfl, rfl⟩
                  refine ⟨_, rfl, ?_⟩
                  refine GoS.run [1, 5, 6, 50] [.n, .n] _ [.inRegion (cops (csub (cd Try.f19) [1,1,1,1,0,1,0,1,0,1,1,0])) [5,6,7,8], .code (csub (cd Try.f19) [1,1,1,1,0,1,0,1,0,1,1,1]), .inBlock 2, .code (csub (cd Try.f19) [1,1,1,1,1])] [(1, pq b), (5, pq b2), (6, .int .i64 0), (50, .bool (!(nameP (h.field))))] w276 (by kernel_rfl) .nil ?_
                  refine GoS.fork 50 (!(nameP (h.field))) (by kernel_rfl) (fun h281 => ?_) (fun h281 => ?_)
                  ·
                    refine GoS.run [1, 5, 6, 54] [.n, .n, .n, .n] _ [.inRegion (cops (csub (cd Try.f19) [1,1,1,1,0,1,0,1,0,1,1,0])) [], .code (csub (cd Try.f19) [1,1,1,1,0,1,0,1,0,1,1,1]), .inBlock 2, .code (csub (cd Try.f19) [1,1,1,1,1])] [(1, pq b), (5, pq b2), (6, .int .i64 0), (54, .bool true)] w276 (by kernel_rfl) .nil ?_
                    have hM286 : Mem [] w0 w276 [] := hM279.sub (cn (cn (List.Sublist.refl _)))
                    refine GoS.run [2] [.n, .n, .n, .n, .n, .n] _ [.code (csub (cd Try.f19) [1,1,1,1,0,1,0,1,0,1,1,1,0,1]), .inBlock 2, .code (csub (cd Try.f19) [1,1,1,1,1])] [(2, .bool false)] w276 (by kernel_rfl) .nil ?_
                    refine GoS.ret (fn := Try.f19) (v := (.bool false)) Try.func19 (by kernel_rfl) ?_
                    rw [hR]
                    have hall : rightL q.l = true := by rw [← tk_all (l := q.l) (i := i) (by omega)]; exact hRt
                    have hro := right_of hall
                    rw [← he] at hro
                    exact ⟨ret_bool (by rw [hro, node_name (by omega) (by have z := h281; simpa using z)]), hM286.sub (List.nil_sublist _)⟩
                  ·
                    have o282 : (Instr.loadAt 25 (pq b)).run Try.prog w276 = .ok ((qA h v)) w276 := c_loads (ys := (qR h v)) aE25 (hM279.rd 1 rfl) (cel_obj b 0) rfl (by intro j u hj; match j, hj with | 0, hj => exact hj | 1, hj => exact hj | 2, hj => exact hj | 3, hj => exact hj | 4, hj => exact hj | 5, hj => exact hj | 6, hj => exact hj | 7, hj => exact hj | n + 8, hj => cases hj)
                    refine GoS.run [1, 5, 6, 50, 51] [.h ((qA h v))] _ [.inRegion (cops (csub (cd Try.f19) [1,1,1,1,0,1,0,1,0,1,1,0])) [6,7,8], .code (csub (cd Try.f19) [1,1,1,1,0,1,0,1,0,1,1,1]), .inBlock 2, .code (csub (cd Try.f19) [1,1,1,1,1])] [(1, pq b), (5, pq b2), (6, .int .i64 0), (50, .bool false), (51, (qA h v))] w276 (by kernel_rfl) (.cons o282 .nil) ?_
                    refine GoS.call [1, 5, 6, 50] 23 #[(qA h v)] (some 52) [.inRegion (cops (csub (cd Try.f19) [1,1,1,1,0,1,0,1,0,1,1,0])) [7,8], .code (csub (cd Try.f19) [1,1,1,1,0,1,0,1,0,1,1,1]), .inBlock 2, .code (csub (cd Try.f19) [1,1,1,1,1])] [(1, pq b), (5, pq b2), (6, .int .i64 0), (50, .bool false)] (by kernel_rfl) (words_c q h he v (hq.kept hM279.kept) (by omega)) ?_
                    rintro _ w283 ⟨rfl, m284⟩
                    refine ⟨_, rfl, ?_⟩
                    have hM285 : Mem [] w0 w283 [⟨25, 8, (obj b2), 1, [.int .i64 (h.op), .string (sb (h.field)), .string (sb (h.text)), .int .i64 (h.edits), .int .i64 (h.exact), .int .u64 0, .int .u64 0, v]⟩, ⟨25, 8, (obj b), 1, (qR h v)⟩] := Mem.join (R := []) hM279 m284
                    refine GoS.run [1, 5, 6, 54] [.n, .n] _ [.inRegion (cops (csub (cd Try.f19) [1,1,1,1,0,1,0,1,0,1,1,0])) [], .code (csub (cd Try.f19) [1,1,1,1,0,1,0,1,0,1,1,1]), .inBlock 2, .code (csub (cd Try.f19) [1,1,1,1,1])] [(1, pq b), (5, pq b2), (6, .int .i64 0), (54, .bool (!(wordsP h)))] w283 (by kernel_rfl) .nil ?_
                    refine GoS.run [1, 5, 6, 54] [.n] _ [.code (csub (cd Try.f19) [1,1,1,1,0,1,0,1,0,1,1,1]), .inBlock 2, .code (csub (cd Try.f19) [1,1,1,1,1])] [(1, pq b), (5, pq b2), (6, .int .i64 0), (54, .bool (!(wordsP h)))] w283 (by kernel_rfl) .nil ?_
                    refine GoS.cond (!(wordsP h)) [.code (csub (cd Try.f19) [1,1,1,1,0,1,0,1,0,1,1,1,0]), .inBlock 2, .code (csub (cd Try.f19) [1,1,1,1,1])] [.code (csub (cd Try.f19) [1,1,1,1,0,1,0,1,0,1,1,1,1]), .inBlock 2, .code (csub (cd Try.f19) [1,1,1,1,1])] (by kernel_rfl) (fun h287 => ?_) (fun h287 => ?_)
                    ·
                      have hM288 : Mem [] w0 w283 [] := hM285.sub (cn (cn (List.Sublist.refl _)))
                      refine GoS.run [2] [.n, .n, .n, .n] _ [.code (csub (cd Try.f19) [1,1,1,1,0,1,0,1,0,1,1,1,0,1]), .inBlock 2, .code (csub (cd Try.f19) [1,1,1,1,1])] [(2, .bool false)] w283 (by kernel_rfl) .nil ?_
                      refine GoS.ret (fn := Try.f19) (v := (.bool false)) Try.func19 (by kernel_rfl) ?_
                      rw [hR]
                      have hall : rightL q.l = true := by rw [← tk_all (l := q.l) (i := i) (by omega)]; exact hRt
                      have hro := right_of hall
                      rw [← he] at hro
                      exact ⟨ret_bool (by rw [hro, node_noword (by omega) (of_decide_eq_false (by have z := h287; simpa [wordsP] using z))]), hM288.sub (List.nil_sublist _)⟩
                    ·
                      refine GoS.run [1, 5, 6] [.n] _ [.inBlock 2, .code (csub (cd Try.f19) [1,1,1,1,1])] [(1, pq b), (5, pq b2), (6, .int .i64 0)] w283 (by kernel_rfl) .nil ?_
                      refine GoS.run [1, 5, 6] [.n, .n] _ [.code (csub (cd Try.f19) [1,1,1,1,1,0]), .code (csub (cd Try.f19) [1,1,1,1,1,1])] [(1, pq b), (5, pq b2), (6, .int .i64 0)] w283 (by kernel_rfl) .nil ?_
                      obtain ⟨w289, hw290⟩ : ∃ w_, (w283).drewN 1 = w_ := ⟨_, rfl⟩
                      refine GoS.held (fun W_ => Mem [] w0 W_ [⟨25, 8, (obj b2), 1, [.int .i64 (h.op), .string (sb (h.field)), .string (sb (h.text)), .int .i64 (h.edits), .int .i64 (h.exact), .int .u64 0, .int .u64 0, v]⟩, ⟨25, 8, (obj b), 1, (qR h v)⟩]) [] 31 (by kernel_rfl) (by kernel_rfl) 13 (by kernel_rfl) ?_
                      rw [hw290]
                      have hM291 : Mem [] w0 w289 [⟨25, 8, (obj b2), 1, [.int .i64 (h.op), .string (sb (h.field)), .string (sb (h.text)), .int .i64 (h.edits), .int .i64 (h.exact), .int .u64 0, .int .u64 0, v]⟩, ⟨25, 8, (obj b), 1, (qR h v)⟩] := hw290 ▸ hM285.ext (Kept.drewN _ _ 1)
                      have hS292 : Mem [] w0 w289 [⟨25, 8, (obj b2), 1, [.int .i64 (h.op), .string (sb (h.field)), .string (sb (h.text)), .int .i64 (h.edits), .int .i64 (h.exact), .int .u64 0, .int .u64 0, v]⟩, ⟨25, 8, (obj b), 1, (qR h v)⟩] := hM291.sub (cc (cc (List.Sublist.refl _)))
                      refine GoH.takeV 0 (.pointer (some (⟨b, 7, none⟩))) (.pointer (some (⟨b, 7, none⟩))) (some 81) (fun W_ => by kernel_rfl) rfl hS292 ?_
                      refine GoH.takeF 1 (v) (fun W_ => (Instr.loadAt 23 (.pointer (some (⟨b, 7, none⟩)))).run Try.prog W_ = .ok (v) W_) (some 82) (fun W_ => by kernel_rfl) (fun W_ hW_ => c_load pE23 (hW_.rd 1 rfl) (cel_obj b 7) rfl) hS292 ?_
                      refine GoH.takeF 2 (.int .i64 (((List.length L) : Nat) : Int)) (fun W_ => (Builtin.len_ #[23] 3 #[v]).run Try.prog W_ = .ok (.int .i64 (((List.length L) : Nat) : Int)) W_) (some 83) (fun W_ => by kernel_rfl) (fun W_ hW_ => f_slen sT23 (hr.kept0 hW_.kept) 3 _) hS292 ?_
                      refine GoH.takeV 3 (.int .i64 0) (.int .i64 0) (some 84) (fun W_ => by kernel_rfl) rfl hS292 ?_
                      refine GoH.takeV 4 (.bool ((((List.length L) : Nat) : Int) == 0)) (.bool ((((List.length L) : Nat) : Int) == 0)) (some 85) (fun W_ => by kernel_rfl) rfl hS292 ?_
                      rcases Bool.eq_false_or_eq_true ((((List.length L) : Nat) : Int) == 0) with h293 | h293
                      ·
                        have h293p : (((List.length L) : Nat) : Int) = 0 := eq_of_beq h293
                        refine GoH.takeV 5 (.bool ((((List.length L) : Nat) : Int) == 0)) (.bool true) (some 86) (fun W_ => by kernel_rfl) (congrArg Value.bool h293) hS292 ?_
                        refine GoH.takeF 6 ((qA h v)) (fun W_ => (Instr.loadAt 25 (pq b)).run Try.prog W_ = .ok ((qA h v)) W_) (some 87) (fun W_ => by kernel_rfl) (fun W_ hW_ => c_loads (ys := (qR h v)) aE25 (hW_.rd 1 rfl) (cel_obj b 0) rfl (by intro j u hj; match j, hj with | 0, hj => exact hj | 1, hj => exact hj | 2, hj => exact hj | 3, hj => exact hj | 4, hj => exact hj | 5, hj => exact hj | 6, hj => exact hj | 7, hj => exact hj | n + 8, hj => cases hj)) hS292 ?_
                        refine GoH.takeF 8 (.agg #[.int .i64 (h.op), .string (sb (h.field)), .string (sb (h.text)), .int .i64 (h.edits), .int .i64 (h.exact), .int .u64 0, .int .u64 0, v]) (fun W_ => (Instr.loadAt 25 (pq b2)).run Try.prog W_ = .ok (.agg #[.int .i64 (h.op), .string (sb (h.field)), .string (sb (h.text)), .int .i64 (h.edits), .int .i64 (h.exact), .int .u64 0, .int .u64 0, v]) W_) (some 89) (fun W_ => by kernel_rfl) (fun W_ hW_ => c_loads (ys := [.int .i64 (h.op), .string (sb (h.field)), .string (sb (h.text)), .int .i64 (h.edits), .int .i64 (h.exact), .int .u64 0, .int .u64 0, v]) aE25 (hW_.rd 0 rfl) (cel_obj b2 0) rfl (by intro j u hj; match j, hj with | 0, hj => exact hj | 1, hj => exact hj | 2, hj => exact hj | 3, hj => exact hj | 4, hj => exact hj | 5, hj => exact hj | 6, hj => exact hj | 7, hj => exact hj | n + 8, hj => cases hj)) hS292 ?_
                        refine GoH.callF 7 21 #[(qA h v)] (some 88) (by kernel_rfl) (flat_c (w := w289) h v) ?_
                        rintro _ w294 ⟨rfl, m295⟩
                        have hM296 : Mem [] w0 w294 [⟨25, 8, (obj b2), 1, [.int .i64 (h.op), .string (sb (h.field)), .string (sb (h.text)), .int .i64 (h.edits), .int .i64 (h.exact), .int .u64 0, .int .u64 0, v]⟩, ⟨25, 8, (obj b), 1, (qR h v)⟩] := Mem.join (R := []) hM291 m295
                        have hS297 : Mem [] w0 w294 [⟨25, 8, (obj b2), 1, [.int .i64 (h.op), .string (sb (h.field)), .string (sb (h.text)), .int .i64 (h.edits), .int .i64 (h.exact), .int .u64 0, .int .u64 0, v]⟩, ⟨25, 8, (obj b), 1, (qR h v)⟩] := hM296.sub (cc (cc (List.Sublist.refl _)))
                        refine ⟨(qH h), rfl, .inr hS297, ?_⟩
                        refine GoH.callF 9 21 #[.agg #[.int .i64 (h.op), .string (sb (h.field)), .string (sb (h.text)), .int .i64 (h.edits), .int .i64 (h.exact), .int .u64 0, .int .u64 0, v]] (some 90) (by kernel_rfl) (flat_c (w := w294) (Hd.mk (h.op) (h.field) (h.text) (h.edits) (h.exact) 0 0) v) ?_
                        rintro _ w298 ⟨rfl, m299⟩
                        have hM300 : Mem [] w0 w298 [⟨25, 8, (obj b2), 1, [.int .i64 (h.op), .string (sb (h.field)), .string (sb (h.text)), .int .i64 (h.edits), .int .i64 (h.exact), .int .u64 0, .int .u64 0, v]⟩, ⟨25, 8, (obj b), 1, (qR h v)⟩] := Mem.join (R := []) hM296 m299
                        have hS301 : Mem [] w0 w298 [⟨25, 8, (obj b2), 1, [.int .i64 (h.op), .string (sb (h.field)), .string (sb (h.text)), .int .i64 (h.edits), .int .i64 (h.exact), .int .u64 0, .int .u64 0, v]⟩, ⟨25, 8, (obj b), 1, (qR h v)⟩] := hM300.sub (cc (cc (List.Sublist.refl _)))
                        refine ⟨.agg #[.int .i64 (h.op), .string (sb (h.field)), .string (sb (h.text)), .int .i64 (h.edits), .int .i64 (h.exact), .int .u64 0, .int .u64 0], rfl, .inr hS301, ?_⟩
                        refine GoH.takeF 10 (.bool (nothP h true true false)) (fun W_ => Try.prog.eqGuardType Try.prog.depth 38 = false ∧ (binOp .eql 38 ((qH h)) (.agg #[.int .i64 (h.op), .string (sb (h.field)), .string (sb (h.text)), .int .i64 (h.edits), .int .i64 (h.exact), .int .u64 0, .int .u64 0])).run Try.prog W_ = .ok (.bool (nothP h true true false)) W_) (some 91) (fun W_ => by kernel_rfl) (fun W_ hW_ => f_ageq eT38 (xs := [.int .i64 (h.op), .string (sb (h.field)), .string (sb (h.text)), .int .i64 (h.edits), .int .i64 (h.exact), .int .u64 (h.lo), .int .u64 (h.hi)]) (ys := [.int .i64 (h.op), .string (sb (h.field)), .string (sb (h.text)), .int .i64 (h.edits), .int .i64 (h.exact), .int .u64 0, .int .u64 0]) (r := ((h.op == h.op) && (((sb (h.field)).toList == (sb (h.field)).toList) && (((sb (h.text)).toList == (sb (h.text)).toList) && ((h.edits == h.edits) && ((h.exact == h.exact) && ((h.lo == 0) && ((h.hi == 0) && true)))))))) (by kernel_rfl) (noth_f h)) hS301 ?_
                        refine GoH.takeV 11 (.bool (nothP h true true false)) (.bool (nothP h true true false)) (some 92) (fun W_ => by kernel_rfl) rfl hS301 ?_
                        refine GoH.takeV 12 (.bool (nothP h true true false)) (.bool (nothP h true true false)) (some 2) (fun W_ => by kernel_rfl) rfl hS301 ?_
                        refine GoH.done [2] [(2, .bool (nothP h true true false))] (by kernel_rfl) (by kernel_rfl) ?_
                        have hM302 : Mem [] w0 w298 [] := hM300.sub (cn (cn (List.Sublist.refl _)))
                        refine GoS.ret (fn := Try.f19) (v := (.bool (nothP h true true false))) Try.func19 (by kernel_rfl) ?_
                        rw [hR]
                        have hall : rightL q.l = true := by rw [← tk_all (l := q.l) (i := i) (by omega)]; exact hRt
                        have hro := right_of hall
                        rw [← he] at hro
                        exact ⟨ret_bool (by rw [hro, node_word (by omega) (by have z := h281; simpa using z) (of_decide_eq_true (by have z := h287; simpa [wordsP] using z)) (by omega), if_pos (by omega)]), hM302.sub (List.nil_sublist _)⟩
                      ·
                        have h293p : ¬ ((((List.length L) : Nat) : Int) = 0) := p_ne h293
                        refine GoH.takeV 5 (.bool ((((List.length L) : Nat) : Int) == 0)) (.bool false) (some 86) (fun W_ => by kernel_rfl) (congrArg Value.bool h293) hS292 ?_
                        refine GoH.skipF 6 (some 87) (by kernel_rfl) hS292 ?_
                        refine GoH.skipF 7 (some 88) (by kernel_rfl) hS292 ?_
                        refine GoH.skipF 8 (some 89) (by kernel_rfl) hS292 ?_
                        refine GoH.skipF 9 (some 90) (by kernel_rfl) hS292 ?_
                        refine GoH.skipF 10 (some 91) (by kernel_rfl) hS292 ?_
                        refine GoH.takeV 11 (.bool false) (.bool false) (some 92) (fun W_ => by kernel_rfl) rfl hS292 ?_
                        refine GoH.takeV 12 (.bool false) (.bool false) (some 2) (fun W_ => by kernel_rfl) rfl hS292 ?_
                        refine GoH.done [2] [(2, .bool false)] (by kernel_rfl) (by kernel_rfl) ?_
                        have hM303 : Mem [] w0 w289 [] := hM291.sub (cn (cn (List.Sublist.refl _)))
                        refine GoS.ret (fn := Try.f19) (v := (.bool false)) Try.func19 (by kernel_rfl) ?_
                        rw [hR]
                        have hall : rightL q.l = true := by rw [← tk_all (l := q.l) (i := i) (by omega)]; exact hRt
                        have hro := right_of hall
                        rw [← he] at hro
                        exact ⟨ret_bool (by rw [hro, node_many (by omega) (by omega)]), hM303.sub (List.nil_sublist _)⟩
                ·
                  rw [h19] at h266; cases h266
              ·
                rw [h19] at h251; cases h251
            ·
              have h19p : ¬ (h.op = 4) := p_ne h19
              refine GoS.run [1, 5, 6, 24, 25] [.n, .n, .n, .n] _ [.code (csub (cd Try.f19) [1,1,1,1,0,1,0,1]), .inBlock 2, .code (csub (cd Try.f19) [1,1,1,1,1])] [(1, pq b), (5, pq b2), (6, .int .i64 0), (24, .int .i64 (h.op)), (25, .bool (h.op == 5))] w7 (by kernel_rfl) .nil ?_
              refine GoS.cond (h.op == 5) [.code (csub (cd Try.f19) [1,1,1,1,0,1,0,1,0]), .inBlock 2, .code (csub (cd Try.f19) [1,1,1,1,1])] [.code (csub (cd Try.f19) [1,1,1,1,0,1,0,1,1]), .inBlock 2, .code (csub (cd Try.f19) [1,1,1,1,1])] (by kernel_rfl) (fun h304 => ?_) (fun h304 => ?_)
              ·
                have h304p : h.op = 5 := eq_of_beq h304
                refine GoS.run [1, 5, 6] [.n] _ [.code (csub (cd Try.f19) [1,1,1,1,0,1,0,1,0,0]), .code (csub (cd Try.f19) [1,1,1,1,0,1,0,1,0,1]), .inBlock 2, .code (csub (cd Try.f19) [1,1,1,1,1])] [(1, pq b), (5, pq b2), (6, .int .i64 0)] w7 (by kernel_rfl) .nil ?_
                obtain ⟨w305, hw306⟩ : ∃ w_, (w7).drewN 1 = w_ := ⟨_, rfl⟩
                refine GoS.held (fun W_ => Mem [] w0 W_ [⟨25, 8, (obj b), 1, (qR h v)⟩]) [7] 16 (by kernel_rfl) (by kernel_rfl) 8 (by kernel_rfl) ?_
                rw [hw306]
                have hM307 : Mem [] w0 w305 [⟨25, 8, (obj b2), 1, [.int .i64 (h.op), .string (sb ([])), .string (sb ([])), .int .i64 0, .int .i64 0, .int .u64 0, .int .u64 0, v]⟩, ⟨25, 8, (obj b), 1, (qR h v)⟩] := hw306 ▸ hM10.ext (Kept.drewN _ _ 1)
                have hS308 : Mem [] w0 w305 [⟨25, 8, (obj b), 1, (qR h v)⟩] := hM307.sub (cn (cc (List.Sublist.refl _)))
                refine GoH.takeV 0 (.pointer (some (⟨b, 1, none⟩))) (.pointer (some (⟨b, 1, none⟩))) (some 31) (fun W_ => by kernel_rfl) rfl hS308 ?_
                refine GoH.takeF 1 (.string (sb (h.field))) (fun W_ => (Instr.loadAt 9 (.pointer (some (⟨b, 1, none⟩)))).run Try.prog W_ = .ok (.string (sb (h.field))) W_) (some 32) (fun W_ => by kernel_rfl) (fun W_ hW_ => c_load pE9 (hW_.rd 0 rfl) (cel_obj b 1) rfl) hS308 ?_
                refine GoH.takeV 2 (.pointer (some (⟨b, 2, none⟩))) (.pointer (some (⟨b, 2, none⟩))) (some 33) (fun W_ => by kernel_rfl) rfl hS308 ?_
                refine GoH.takeF 3 (.string (sb (h.text))) (fun W_ => (Instr.loadAt 9 (.pointer (some (⟨b, 2, none⟩)))).run Try.prog W_ = .ok (.string (sb (h.text))) W_) (some 34) (fun W_ => by kernel_rfl) (fun W_ hW_ => c_load pE9 (hW_.rd 0 rfl) (cel_obj b 2) rfl) hS308 ?_
                refine GoH.takeV 4 (.pointer (some (⟨b2, 1, none⟩))) (.pointer (some (⟨b2, 1, none⟩))) (some 35) (fun W_ => by kernel_rfl) rfl hS308 ?_
                obtain ⟨w309, hr310, hM311⟩ := c_store (u := .string (sb (h.field))) (by kernel_rfl) hM307 0 rfl (cel_obj b2 1) (by decide) rfl rfl
                have hM312 : Mem [] w0 w309 [⟨25, 8, (obj b2), 1, [.int .i64 (h.op), .string (sb (h.field)), .string (sb ([])), .int .i64 0, .int .i64 0, .int .u64 0, .int .u64 0, v]⟩, ⟨25, 8, (obj b), 1, (qR h v)⟩] := hM311
                have hS313 : Mem [] w0 w309 [⟨25, 8, (obj b), 1, (qR h v)⟩] := hM312.sub (cn (cc (List.Sublist.refl _)))
                refine GoH.stepF 5 (undef) (w309) ((Instr.storeAt 9 (.pointer (some (⟨b2, 1, none⟩))) (.string (sb (h.field)))).run Try.prog w305 = .ok () w309 ∧ undef = undef) none (by kernel_rfl) (⟨hr310, rfl⟩) (.inr hS313) ?_
                refine GoH.takeV 6 (.pointer (some (⟨b2, 2, none⟩))) (.pointer (some (⟨b2, 2, none⟩))) (some 36) (fun W_ => by kernel_rfl) rfl hS313 ?_
                obtain ⟨w314, hr315, hM316⟩ := c_store (u := .string (sb (h.text))) (by kernel_rfl) hM312 0 rfl (cel_obj b2 2) (by decide) rfl rfl
                have hM317 : Mem [] w0 w314 [⟨25, 8, (obj b2), 1, [.int .i64 (h.op), .string (sb (h.field)), .string (sb (h.text)), .int .i64 0, .int .i64 0, .int .u64 0, .int .u64 0, v]⟩, ⟨25, 8, (obj b), 1, (qR h v)⟩] := hM316
                refine GoH.stepF 7 (undef) (w314) ((Instr.storeAt 9 (.pointer (some (⟨b2, 2, none⟩))) (.string (sb (h.text)))).run Try.prog w309 = .ok () w314 ∧ undef = undef) none (by kernel_rfl) (⟨hr315, rfl⟩) (.inl rfl) ?_
                refine GoH.done [1, 5, 6] [(1, pq b), (5, pq b2), (6, .int .i64 0)] (by kernel_rfl) (by kernel_rfl) ?_
                have o318 : (Instr.loadAt 3 (pq b)).run Try.prog w314 = .ok (.int .i64 (h.op)) w314 := c_load pE3 (hM317.rd 1 rfl) (cel_obj b 0) rfl
                refine GoS.run [1, 5, 6, 39] [.n, .n, .n, .n, .h (.int .i64 (h.op)), .n, .n] _ [.code (csub (cd Try.f19) [1,1,1,1,0,1,0,1,0,1,0,1]), .code (csub (cd Try.f19) [1,1,1,1,0,1,0,1,0,1,1]), .inBlock 2, .code (csub (cd Try.f19) [1,1,1,1,1])] [(1, pq b), (5, pq b2), (6, .int .i64 0), (39, .bool (h.op == 4))] w314 (by kernel_rfl) (.cons o318 .nil) ?_
                refine GoS.cond (h.op == 4) [.code (csub (cd Try.f19) [1,1,1,1,0,1,0,1,0,1,0,1,0]), .code (csub (cd Try.f19) [1,1,1,1,0,1,0,1,0,1,1]), .inBlock 2, .code (csub (cd Try.f19) [1,1,1,1,1])] [.code (csub (cd Try.f19) [1,1,1,1,0,1,0,1,0,1,0,1,1]), .code (csub (cd Try.f19) [1,1,1,1,0,1,0,1,0,1,1]), .inBlock 2, .code (csub (cd Try.f19) [1,1,1,1,1])] (by kernel_rfl) (fun h319 => ?_) (fun h319 => ?_)
                ·
                  rw [h19] at h319; cases h319
                ·
                  have h319p : ¬ (h.op = 4) := p_ne h319
                  refine GoS.run [1, 5, 6] [.n] _ [.code (csub (cd Try.f19) [1,1,1,1,0,1,0,1,0,1,1]), .inBlock 2, .code (csub (cd Try.f19) [1,1,1,1,1])] [(1, pq b), (5, pq b2), (6, .int .i64 0)] w314 (by kernel_rfl) .nil ?_
                  have o320 : (Instr.loadAt 9 (.pointer (some (⟨b, 1, none⟩)))).run Try.prog w314 = .ok (.string (sb (h.field))) w314 := c_load pE9 (hM317.rd 1 rfl) (cel_obj b 1) rfl
                  refine GoS.run [1, 5, 6, 47] [.n, .n, .n, .h (.string (sb (h.field)))] _ [.inRegion (cops (csub (cd Try.f19) [1,1,1,1,0,1,0,1,0,1,1,0])) [2,3,4,5,6,7,8], .code (csub (cd Try.f19) [1,1,1,1,0,1,0,1,0,1,1,1]), .inBlock 2, .code (csub (cd Try.f19) [1,1,1,1,1])] [(1, pq b), (5, pq b2), (6, .int .i64 0), (47, .string (sb (h.field)))] w314 (by kernel_rfl) (.cons o320 .nil) ?_
                  refine GoS.call [1, 5, 6] 22 #[.string (sb (h.field))] (some 48) [.inRegion (cops (csub (cd Try.f19) [1,1,1,1,0,1,0,1,0,1,1,0])) [3,4,5,6,7,8], .code (csub (cd Try.f19) [1,1,1,1,0,1,0,1,0,1,1,1]), .inBlock 2, .code (csub (cd Try.f19) [1,1,1,1,1])] [(1, pq b), (5, pq b2), (6, .int .i64 0)] (by kernel_rfl) (name_c (h.field) (by rw [he]; omega) w314) ?_
                  rintro _ _ ⟨rfl, rfl⟩
                  refine ⟨_, rfl, ?_⟩
                  refine GoS.run [1, 5, 6, 50] [.n, .n] _ [.inRegion (cops (csub (cd Try.f19) [1,1,1,1,0,1,0,1,0,1,1,0])) [5,6,7,8], .code (csub (cd Try.f19) [1,1,1,1,0,1,0,1,0,1,1,1]), .inBlock 2, .code (csub (cd Try.f19) [1,1,1,1,1])] [(1, pq b), (5, pq b2), (6, .int .i64 0), (50, .bool (!(nameP (h.field))))] w314 (by kernel_rfl) .nil ?_
                  refine GoS.fork 50 (!(nameP (h.field))) (by kernel_rfl) (fun h321 => ?_) (fun h321 => ?_)
                  ·
                    refine GoS.run [1, 5, 6, 54] [.n, .n, .n, .n] _ [.inRegion (cops (csub (cd Try.f19) [1,1,1,1,0,1,0,1,0,1,1,0])) [], .code (csub (cd Try.f19) [1,1,1,1,0,1,0,1,0,1,1,1]), .inBlock 2, .code (csub (cd Try.f19) [1,1,1,1,1])] [(1, pq b), (5, pq b2), (6, .int .i64 0), (54, .bool true)] w314 (by kernel_rfl) .nil ?_
                    have hM326 : Mem [] w0 w314 [] := hM317.sub (cn (cn (List.Sublist.refl _)))
                    refine GoS.run [2] [.n, .n, .n, .n, .n, .n] _ [.code (csub (cd Try.f19) [1,1,1,1,0,1,0,1,0,1,1,1,0,1]), .inBlock 2, .code (csub (cd Try.f19) [1,1,1,1,1])] [(2, .bool false)] w314 (by kernel_rfl) .nil ?_
                    refine GoS.ret (fn := Try.f19) (v := (.bool false)) Try.func19 (by kernel_rfl) ?_
                    rw [hR]
                    have hall : rightL q.l = true := by rw [← tk_all (l := q.l) (i := i) (by omega)]; exact hRt
                    have hro := right_of hall
                    rw [← he] at hro
                    exact ⟨ret_bool (by rw [hro, node_name (by omega) (by have z := h321; simpa using z)]), hM326.sub (List.nil_sublist _)⟩
                  ·
                    have o322 : (Instr.loadAt 25 (pq b)).run Try.prog w314 = .ok ((qA h v)) w314 := c_loads (ys := (qR h v)) aE25 (hM317.rd 1 rfl) (cel_obj b 0) rfl (by intro j u hj; match j, hj with | 0, hj => exact hj | 1, hj => exact hj | 2, hj => exact hj | 3, hj => exact hj | 4, hj => exact hj | 5, hj => exact hj | 6, hj => exact hj | 7, hj => exact hj | n + 8, hj => cases hj)
                    refine GoS.run [1, 5, 6, 50, 51] [.h ((qA h v))] _ [.inRegion (cops (csub (cd Try.f19) [1,1,1,1,0,1,0,1,0,1,1,0])) [6,7,8], .code (csub (cd Try.f19) [1,1,1,1,0,1,0,1,0,1,1,1]), .inBlock 2, .code (csub (cd Try.f19) [1,1,1,1,1])] [(1, pq b), (5, pq b2), (6, .int .i64 0), (50, .bool false), (51, (qA h v))] w314 (by kernel_rfl) (.cons o322 .nil) ?_
                    refine GoS.call [1, 5, 6, 50] 23 #[(qA h v)] (some 52) [.inRegion (cops (csub (cd Try.f19) [1,1,1,1,0,1,0,1,0,1,1,0])) [7,8], .code (csub (cd Try.f19) [1,1,1,1,0,1,0,1,0,1,1,1]), .inBlock 2, .code (csub (cd Try.f19) [1,1,1,1,1])] [(1, pq b), (5, pq b2), (6, .int .i64 0), (50, .bool false)] (by kernel_rfl) (words_c q h he v (hq.kept hM317.kept) (by omega)) ?_
                    rintro _ w323 ⟨rfl, m324⟩
                    refine ⟨_, rfl, ?_⟩
                    have hM325 : Mem [] w0 w323 [⟨25, 8, (obj b2), 1, [.int .i64 (h.op), .string (sb (h.field)), .string (sb (h.text)), .int .i64 0, .int .i64 0, .int .u64 0, .int .u64 0, v]⟩, ⟨25, 8, (obj b), 1, (qR h v)⟩] := Mem.join (R := []) hM317 m324
                    refine GoS.run [1, 5, 6, 54] [.n, .n] _ [.inRegion (cops (csub (cd Try.f19) [1,1,1,1,0,1,0,1,0,1,1,0])) [], .code (csub (cd Try.f19) [1,1,1,1,0,1,0,1,0,1,1,1]), .inBlock 2, .code (csub (cd Try.f19) [1,1,1,1,1])] [(1, pq b), (5, pq b2), (6, .int .i64 0), (54, .bool (!(wordsP h)))] w323 (by kernel_rfl) .nil ?_
                    refine GoS.run [1, 5, 6, 54] [.n] _ [.code (csub (cd Try.f19) [1,1,1,1,0,1,0,1,0,1,1,1]), .inBlock 2, .code (csub (cd Try.f19) [1,1,1,1,1])] [(1, pq b), (5, pq b2), (6, .int .i64 0), (54, .bool (!(wordsP h)))] w323 (by kernel_rfl) .nil ?_
                    refine GoS.cond (!(wordsP h)) [.code (csub (cd Try.f19) [1,1,1,1,0,1,0,1,0,1,1,1,0]), .inBlock 2, .code (csub (cd Try.f19) [1,1,1,1,1])] [.code (csub (cd Try.f19) [1,1,1,1,0,1,0,1,0,1,1,1,1]), .inBlock 2, .code (csub (cd Try.f19) [1,1,1,1,1])] (by kernel_rfl) (fun h327 => ?_) (fun h327 => ?_)
                    ·
                      have hM328 : Mem [] w0 w323 [] := hM325.sub (cn (cn (List.Sublist.refl _)))
                      refine GoS.run [2] [.n, .n, .n, .n] _ [.code (csub (cd Try.f19) [1,1,1,1,0,1,0,1,0,1,1,1,0,1]), .inBlock 2, .code (csub (cd Try.f19) [1,1,1,1,1])] [(2, .bool false)] w323 (by kernel_rfl) .nil ?_
                      refine GoS.ret (fn := Try.f19) (v := (.bool false)) Try.func19 (by kernel_rfl) ?_
                      rw [hR]
                      have hall : rightL q.l = true := by rw [← tk_all (l := q.l) (i := i) (by omega)]; exact hRt
                      have hro := right_of hall
                      rw [← he] at hro
                      exact ⟨ret_bool (by rw [hro, node_noword (by omega) (of_decide_eq_false (by have z := h327; simpa [wordsP] using z))]), hM328.sub (List.nil_sublist _)⟩
                    ·
                      refine GoS.run [1, 5, 6] [.n] _ [.inBlock 2, .code (csub (cd Try.f19) [1,1,1,1,1])] [(1, pq b), (5, pq b2), (6, .int .i64 0)] w323 (by kernel_rfl) .nil ?_
                      refine GoS.run [1, 5, 6] [.n, .n] _ [.code (csub (cd Try.f19) [1,1,1,1,1,0]), .code (csub (cd Try.f19) [1,1,1,1,1,1])] [(1, pq b), (5, pq b2), (6, .int .i64 0)] w323 (by kernel_rfl) .nil ?_
                      obtain ⟨w363, hw364⟩ : ∃ w_, (w323).drewN 1 = w_ := ⟨_, rfl⟩
                      refine GoS.held (fun W_ => Mem [] w0 W_ [⟨25, 8, (obj b2), 1, [.int .i64 (h.op), .string (sb (h.field)), .string (sb (h.text)), .int .i64 0, .int .i64 0, .int .u64 0, .int .u64 0, v]⟩, ⟨25, 8, (obj b), 1, (qR h v)⟩]) [] 31 (by kernel_rfl) (by kernel_rfl) 13 (by kernel_rfl) ?_
                      rw [hw364]
                      have hM365 : Mem [] w0 w363 [⟨25, 8, (obj b2), 1, [.int .i64 (h.op), .string (sb (h.field)), .string (sb (h.text)), .int .i64 0, .int .i64 0, .int .u64 0, .int .u64 0, v]⟩, ⟨25, 8, (obj b), 1, (qR h v)⟩] := hw364 ▸ hM325.ext (Kept.drewN _ _ 1)
                      have hS366 : Mem [] w0 w363 [⟨25, 8, (obj b2), 1, [.int .i64 (h.op), .string (sb (h.field)), .string (sb (h.text)), .int .i64 0, .int .i64 0, .int .u64 0, .int .u64 0, v]⟩, ⟨25, 8, (obj b), 1, (qR h v)⟩] := hM365.sub (cc (cc (List.Sublist.refl _)))
                      refine GoH.takeV 0 (.pointer (some (⟨b, 7, none⟩))) (.pointer (some (⟨b, 7, none⟩))) (some 81) (fun W_ => by kernel_rfl) rfl hS366 ?_
                      refine GoH.takeF 1 (v) (fun W_ => (Instr.loadAt 23 (.pointer (some (⟨b, 7, none⟩)))).run Try.prog W_ = .ok (v) W_) (some 82) (fun W_ => by kernel_rfl) (fun W_ hW_ => c_load pE23 (hW_.rd 1 rfl) (cel_obj b 7) rfl) hS366 ?_
                      refine GoH.takeF 2 (.int .i64 (((List.length L) : Nat) : Int)) (fun W_ => (Builtin.len_ #[23] 3 #[v]).run Try.prog W_ = .ok (.int .i64 (((List.length L) : Nat) : Int)) W_) (some 83) (fun W_ => by kernel_rfl) (fun W_ hW_ => f_slen sT23 (hr.kept0 hW_.kept) 3 _) hS366 ?_
                      refine GoH.takeV 3 (.int .i64 0) (.int .i64 0) (some 84) (fun W_ => by kernel_rfl) rfl hS366 ?_
                      refine GoH.takeV 4 (.bool ((((List.length L) : Nat) : Int) == 0)) (.bool ((((List.length L) : Nat) : Int) == 0)) (some 85) (fun W_ => by kernel_rfl) rfl hS366 ?_
                      rcases Bool.eq_false_or_eq_true ((((List.length L) : Nat) : Int) == 0) with h367 | h367
                      ·
                        have h367p : (((List.length L) : Nat) : Int) = 0 := eq_of_beq h367
                        refine GoH.takeV 5 (.bool ((((List.length L) : Nat) : Int) == 0)) (.bool true) (some 86) (fun W_ => by kernel_rfl) (congrArg Value.bool h367) hS366 ?_
                        refine GoH.takeF 6 ((qA h v)) (fun W_ => (Instr.loadAt 25 (pq b)).run Try.prog W_ = .ok ((qA h v)) W_) (some 87) (fun W_ => by kernel_rfl) (fun W_ hW_ => c_loads (ys := (qR h v)) aE25 (hW_.rd 1 rfl) (cel_obj b 0) rfl (by intro j u hj; match j, hj with | 0, hj => exact hj | 1, hj => exact hj | 2, hj => exact hj | 3, hj => exact hj | 4, hj => exact hj | 5, hj => exact hj | 6, hj => exact hj | 7, hj => exact hj | n + 8, hj => cases hj)) hS366 ?_
                        refine GoH.takeF 8 (.agg #[.int .i64 (h.op), .string (sb (h.field)), .string (sb (h.text)), .int .i64 0, .int .i64 0, .int .u64 0, .int .u64 0, v]) (fun W_ => (Instr.loadAt 25 (pq b2)).run Try.prog W_ = .ok (.agg #[.int .i64 (h.op), .string (sb (h.field)), .string (sb (h.text)), .int .i64 0, .int .i64 0, .int .u64 0, .int .u64 0, v]) W_) (some 89) (fun W_ => by kernel_rfl) (fun W_ hW_ => c_loads (ys := [.int .i64 (h.op), .string (sb (h.field)), .string (sb (h.text)), .int .i64 0, .int .i64 0, .int .u64 0, .int .u64 0, v]) aE25 (hW_.rd 0 rfl) (cel_obj b2 0) rfl (by intro j u hj; match j, hj with | 0, hj => exact hj | 1, hj => exact hj | 2, hj => exact hj | 3, hj => exact hj | 4, hj => exact hj | 5, hj => exact hj | 6, hj => exact hj | 7, hj => exact hj | n + 8, hj => cases hj)) hS366 ?_
                        refine GoH.callF 7 21 #[(qA h v)] (some 88) (by kernel_rfl) (flat_c (w := w363) h v) ?_
                        rintro _ w368 ⟨rfl, m369⟩
                        have hM370 : Mem [] w0 w368 [⟨25, 8, (obj b2), 1, [.int .i64 (h.op), .string (sb (h.field)), .string (sb (h.text)), .int .i64 0, .int .i64 0, .int .u64 0, .int .u64 0, v]⟩, ⟨25, 8, (obj b), 1, (qR h v)⟩] := Mem.join (R := []) hM365 m369
                        have hS371 : Mem [] w0 w368 [⟨25, 8, (obj b2), 1, [.int .i64 (h.op), .string (sb (h.field)), .string (sb (h.text)), .int .i64 0, .int .i64 0, .int .u64 0, .int .u64 0, v]⟩, ⟨25, 8, (obj b), 1, (qR h v)⟩] := hM370.sub (cc (cc (List.Sublist.refl _)))
                        refine ⟨(qH h), rfl, .inr hS371, ?_⟩
                        refine GoH.callF 9 21 #[.agg #[.int .i64 (h.op), .string (sb (h.field)), .string (sb (h.text)), .int .i64 0, .int .i64 0, .int .u64 0, .int .u64 0, v]] (some 90) (by kernel_rfl) (flat_c (w := w368) (Hd.mk (h.op) (h.field) (h.text) 0 0 0 0) v) ?_
                        rintro _ w372 ⟨rfl, m373⟩
                        have hM374 : Mem [] w0 w372 [⟨25, 8, (obj b2), 1, [.int .i64 (h.op), .string (sb (h.field)), .string (sb (h.text)), .int .i64 0, .int .i64 0, .int .u64 0, .int .u64 0, v]⟩, ⟨25, 8, (obj b), 1, (qR h v)⟩] := Mem.join (R := []) hM370 m373
                        have hS375 : Mem [] w0 w372 [⟨25, 8, (obj b2), 1, [.int .i64 (h.op), .string (sb (h.field)), .string (sb (h.text)), .int .i64 0, .int .i64 0, .int .u64 0, .int .u64 0, v]⟩, ⟨25, 8, (obj b), 1, (qR h v)⟩] := hM374.sub (cc (cc (List.Sublist.refl _)))
                        refine ⟨.agg #[.int .i64 (h.op), .string (sb (h.field)), .string (sb (h.text)), .int .i64 0, .int .i64 0, .int .u64 0, .int .u64 0], rfl, .inr hS375, ?_⟩
                        refine GoH.takeF 10 (.bool (nothP h true false false)) (fun W_ => Try.prog.eqGuardType Try.prog.depth 38 = false ∧ (binOp .eql 38 ((qH h)) (.agg #[.int .i64 (h.op), .string (sb (h.field)), .string (sb (h.text)), .int .i64 0, .int .i64 0, .int .u64 0, .int .u64 0])).run Try.prog W_ = .ok (.bool (nothP h true false false)) W_) (some 91) (fun W_ => by kernel_rfl) (fun W_ hW_ => f_ageq eT38 (xs := [.int .i64 (h.op), .string (sb (h.field)), .string (sb (h.text)), .int .i64 (h.edits), .int .i64 (h.exact), .int .u64 (h.lo), .int .u64 (h.hi)]) (ys := [.int .i64 (h.op), .string (sb (h.field)), .string (sb (h.text)), .int .i64 0, .int .i64 0, .int .u64 0, .int .u64 0]) (r := ((h.op == h.op) && (((sb (h.field)).toList == (sb (h.field)).toList) && (((sb (h.text)).toList == (sb (h.text)).toList) && ((h.edits == 0) && ((h.exact == 0) && ((h.lo == 0) && ((h.hi == 0) && true)))))))) (by kernel_rfl) (noth_t h)) hS375 ?_
                        refine GoH.takeV 11 (.bool (nothP h true false false)) (.bool (nothP h true false false)) (some 92) (fun W_ => by kernel_rfl) rfl hS375 ?_
                        refine GoH.takeV 12 (.bool (nothP h true false false)) (.bool (nothP h true false false)) (some 2) (fun W_ => by kernel_rfl) rfl hS375 ?_
                        refine GoH.done [2] [(2, .bool (nothP h true false false))] (by kernel_rfl) (by kernel_rfl) ?_
                        have hM376 : Mem [] w0 w372 [] := hM374.sub (cn (cn (List.Sublist.refl _)))
                        refine GoS.ret (fn := Try.f19) (v := (.bool (nothP h true false false))) Try.func19 (by kernel_rfl) ?_
                        rw [hR]
                        have hall : rightL q.l = true := by rw [← tk_all (l := q.l) (i := i) (by omega)]; exact hRt
                        have hro := right_of hall
                        rw [← he] at hro
                        exact ⟨ret_bool (by rw [hro, node_word (by omega) (by have z := h321; simpa using z) (of_decide_eq_true (by have z := h327; simpa [wordsP] using z)) (by omega), if_neg (by omega)]), hM376.sub (List.nil_sublist _)⟩
                      ·
                        have h367p : ¬ ((((List.length L) : Nat) : Int) = 0) := p_ne h367
                        refine GoH.takeV 5 (.bool ((((List.length L) : Nat) : Int) == 0)) (.bool false) (some 86) (fun W_ => by kernel_rfl) (congrArg Value.bool h367) hS366 ?_
                        refine GoH.skipF 6 (some 87) (by kernel_rfl) hS366 ?_
                        refine GoH.skipF 7 (some 88) (by kernel_rfl) hS366 ?_
                        refine GoH.skipF 8 (some 89) (by kernel_rfl) hS366 ?_
                        refine GoH.skipF 9 (some 90) (by kernel_rfl) hS366 ?_
                        refine GoH.skipF 10 (some 91) (by kernel_rfl) hS366 ?_
                        refine GoH.takeV 11 (.bool false) (.bool false) (some 92) (fun W_ => by kernel_rfl) rfl hS366 ?_
                        refine GoH.takeV 12 (.bool false) (.bool false) (some 2) (fun W_ => by kernel_rfl) rfl hS366 ?_
                        refine GoH.done [2] [(2, .bool false)] (by kernel_rfl) (by kernel_rfl) ?_
                        have hM377 : Mem [] w0 w363 [] := hM365.sub (cn (cn (List.Sublist.refl _)))
                        refine GoS.ret (fn := Try.f19) (v := (.bool false)) Try.func19 (by kernel_rfl) ?_
                        rw [hR]
                        have hall : rightL q.l = true := by rw [← tk_all (l := q.l) (i := i) (by omega)]; exact hRt
                        have hro := right_of hall
                        rw [← he] at hro
                        exact ⟨ret_bool (by rw [hro, node_many (by omega) (by omega)]), hM377.sub (List.nil_sublist _)⟩
              ·
                have h304p : ¬ (h.op = 5) := p_ne h304
                refine GoS.run [1, 5, 6, 24, 55] [.n, .n, .n, .n, .n] _ [.code (csub (cd Try.f19) [1,1,1,1,0,1,0,1,1,1]), .inBlock 2, .code (csub (cd Try.f19) [1,1,1,1,1])] [(1, pq b), (5, pq b2), (6, .int .i64 0), (24, .int .i64 (h.op)), (55, .bool (h.op == 6))] w7 (by kernel_rfl) .nil ?_
                refine GoS.cond (h.op == 6) [.code (csub (cd Try.f19) [1,1,1,1,0,1,0,1,1,1,0]), .inBlock 2, .code (csub (cd Try.f19) [1,1,1,1,1])] [.code (csub (cd Try.f19) [1,1,1,1,0,1,0,1,1,1,1]), .inBlock 2, .code (csub (cd Try.f19) [1,1,1,1,1])] (by kernel_rfl) (fun h329 => ?_) (fun h329 => ?_)
                ·
                  have h329p : h.op = 6 := eq_of_beq h329
                  refine GoS.run [1, 5, 6] [.n] _ [.code (csub (cd Try.f19) [1,1,1,1,0,1,0,1,1,1,0,0]), .code (csub (cd Try.f19) [1,1,1,1,0,1,0,1,1,1,0,1]), .inBlock 2, .code (csub (cd Try.f19) [1,1,1,1,1])] [(1, pq b), (5, pq b2), (6, .int .i64 0)] w7 (by kernel_rfl) .nil ?_
                  obtain ⟨w330, hw331⟩ : ∃ w_, (w7).drewN 1 = w_ := ⟨_, rfl⟩
                  refine GoS.held (fun W_ => Mem [] w0 W_ [⟨25, 8, (obj b), 1, (qR h v)⟩]) [11] 22 (by kernel_rfl) (by kernel_rfl) 12 (by kernel_rfl) ?_
                  rw [hw331]
                  have hM332 : Mem [] w0 w330 [⟨25, 8, (obj b2), 1, [.int .i64 (h.op), .string (sb ([])), .string (sb ([])), .int .i64 0, .int .i64 0, .int .u64 0, .int .u64 0, v]⟩, ⟨25, 8, (obj b), 1, (qR h v)⟩] := hw331 ▸ hM10.ext (Kept.drewN _ _ 1)
                  have hS333 : Mem [] w0 w330 [⟨25, 8, (obj b), 1, (qR h v)⟩] := hM332.sub (cn (cc (List.Sublist.refl _)))
                  refine GoH.takeV 0 (.pointer (some (⟨b, 1, none⟩))) (.pointer (some (⟨b, 1, none⟩))) (some 57) (fun W_ => by kernel_rfl) rfl hS333 ?_
                  refine GoH.takeF 1 (.string (sb (h.field))) (fun W_ => (Instr.loadAt 9 (.pointer (some (⟨b, 1, none⟩)))).run Try.prog W_ = .ok (.string (sb (h.field))) W_) (some 58) (fun W_ => by kernel_rfl) (fun W_ hW_ => c_load pE9 (hW_.rd 0 rfl) (cel_obj b 1) rfl) hS333 ?_
                  refine GoH.takeV 2 (.pointer (some (⟨b, 5, none⟩))) (.pointer (some (⟨b, 5, none⟩))) (some 59) (fun W_ => by kernel_rfl) rfl hS333 ?_
                  refine GoH.takeF 3 (.int .u64 (h.lo)) (fun W_ => (Instr.loadAt 22 (.pointer (some (⟨b, 5, none⟩)))).run Try.prog W_ = .ok (.int .u64 (h.lo)) W_) (some 60) (fun W_ => by kernel_rfl) (fun W_ hW_ => c_load pE22 (hW_.rd 0 rfl) (cel_obj b 5) rfl) hS333 ?_
                  refine GoH.takeV 4 (.pointer (some (⟨b, 6, none⟩))) (.pointer (some (⟨b, 6, none⟩))) (some 61) (fun W_ => by kernel_rfl) rfl hS333 ?_
                  refine GoH.takeF 5 (.int .u64 (h.hi)) (fun W_ => (Instr.loadAt 22 (.pointer (some (⟨b, 6, none⟩)))).run Try.prog W_ = .ok (.int .u64 (h.hi)) W_) (some 62) (fun W_ => by kernel_rfl) (fun W_ hW_ => c_load pE22 (hW_.rd 0 rfl) (cel_obj b 6) rfl) hS333 ?_
                  refine GoH.takeV 6 (.pointer (some (⟨b2, 1, none⟩))) (.pointer (some (⟨b2, 1, none⟩))) (some 63) (fun W_ => by kernel_rfl) rfl hS333 ?_
                  obtain ⟨w334, hr335, hM336⟩ := c_store (u := .string (sb (h.field))) (by kernel_rfl) hM332 0 rfl (cel_obj b2 1) (by decide) rfl rfl
                  have hM337 : Mem [] w0 w334 [⟨25, 8, (obj b2), 1, [.int .i64 (h.op), .string (sb (h.field)), .string (sb ([])), .int .i64 0, .int .i64 0, .int .u64 0, .int .u64 0, v]⟩, ⟨25, 8, (obj b), 1, (qR h v)⟩] := hM336
                  have hS338 : Mem [] w0 w334 [⟨25, 8, (obj b), 1, (qR h v)⟩] := hM337.sub (cn (cc (List.Sublist.refl _)))
                  refine GoH.stepF 7 (undef) (w334) ((Instr.storeAt 9 (.pointer (some (⟨b2, 1, none⟩))) (.string (sb (h.field)))).run Try.prog w330 = .ok () w334 ∧ undef = undef) none (by kernel_rfl) (⟨hr335, rfl⟩) (.inr hS338) ?_
                  refine GoH.takeV 8 (.pointer (some (⟨b2, 5, none⟩))) (.pointer (some (⟨b2, 5, none⟩))) (some 64) (fun W_ => by kernel_rfl) rfl hS338 ?_
                  obtain ⟨w339, hr340, hM341⟩ := c_store (u := .int .u64 (h.lo)) (by kernel_rfl) hM337 0 rfl (cel_obj b2 5) (by decide) rfl rfl
                  have hM342 : Mem [] w0 w339 [⟨25, 8, (obj b2), 1, [.int .i64 (h.op), .string (sb (h.field)), .string (sb ([])), .int .i64 0, .int .i64 0, .int .u64 (h.lo), .int .u64 0, v]⟩, ⟨25, 8, (obj b), 1, (qR h v)⟩] := hM341
                  have hS343 : Mem [] w0 w339 [⟨25, 8, (obj b), 1, (qR h v)⟩] := hM342.sub (cn (cc (List.Sublist.refl _)))
                  refine GoH.stepF 9 (undef) (w339) ((Instr.storeAt 22 (.pointer (some (⟨b2, 5, none⟩))) (.int .u64 (h.lo))).run Try.prog w334 = .ok () w339 ∧ undef = undef) none (by kernel_rfl) (⟨hr340, rfl⟩) (.inr hS343) ?_
                  refine GoH.takeV 10 (.pointer (some (⟨b2, 6, none⟩))) (.pointer (some (⟨b2, 6, none⟩))) (some 65) (fun W_ => by kernel_rfl) rfl hS343 ?_
                  obtain ⟨w344, hr345, hM346⟩ := c_store (u := .int .u64 (h.hi)) (by kernel_rfl) hM342 0 rfl (cel_obj b2 6) (by decide) rfl rfl
                  have hM347 : Mem [] w0 w344 [⟨25, 8, (obj b2), 1, [.int .i64 (h.op), .string (sb (h.field)), .string (sb ([])), .int .i64 0, .int .i64 0, .int .u64 (h.lo), .int .u64 (h.hi), v]⟩, ⟨25, 8, (obj b), 1, (qR h v)⟩] := hM346
                  refine GoH.stepF 11 (undef) (w344) ((Instr.storeAt 22 (.pointer (some (⟨b2, 6, none⟩))) (.int .u64 (h.hi))).run Try.prog w339 = .ok () w344 ∧ undef = undef) none (by kernel_rfl) (⟨hr345, rfl⟩) (.inl rfl) ?_
                  refine GoH.done [1, 5, 6] [(1, pq b), (5, pq b2), (6, .int .i64 0)] (by kernel_rfl) (by kernel_rfl) ?_
                  have o348 : (Instr.loadAt 9 (.pointer (some (⟨b, 1, none⟩)))).run Try.prog w344 = .ok (.string (sb (h.field))) w344 := c_load pE9 (hM347.rd 1 rfl) (cel_obj b 1) rfl
                  refine GoS.run [1, 5, 6, 67] [.n, .n, .n, .h (.string (sb (h.field)))] _ [.inRegion (cops (csub (cd Try.f19) [1,1,1,1,0,1,0,1,1,1,0,1,0])) [2,3], .code (csub (cd Try.f19) [1,1,1,1,0,1,0,1,1,1,0,1,1]), .inBlock 2, .code (csub (cd Try.f19) [1,1,1,1,1])] [(1, pq b), (5, pq b2), (6, .int .i64 0), (67, .string (sb (h.field)))] w344 (by kernel_rfl) (.cons o348 .nil) ?_
                  refine GoS.call [1, 5, 6] 22 #[.string (sb (h.field))] (some 68) [.inRegion (cops (csub (cd Try.f19) [1,1,1,1,0,1,0,1,1,1,0,1,0])) [3], .code (csub (cd Try.f19) [1,1,1,1,0,1,0,1,1,1,0,1,1]), .inBlock 2, .code (csub (cd Try.f19) [1,1,1,1,1])] [(1, pq b), (5, pq b2), (6, .int .i64 0)] (by kernel_rfl) (name_c (h.field) (by rw [he]; omega) w344) ?_
                  rintro _ _ ⟨rfl, rfl⟩
                  refine ⟨_, rfl, ?_⟩
                  refine GoS.run [1, 5, 6, 69] [.n, .n] _ [.code (csub (cd Try.f19) [1,1,1,1,0,1,0,1,1,1,0,1,1]), .inBlock 2, .code (csub (cd Try.f19) [1,1,1,1,1])] [(1, pq b), (5, pq b2), (6, .int .i64 0), (69, .bool (!(nameP (h.field))))] w344 (by kernel_rfl) .nil ?_
                  refine GoS.cond (!(nameP (h.field))) [.code (csub (cd Try.f19) [1,1,1,1,0,1,0,1,1,1,0,1,1,0]), .inBlock 2, .code (csub (cd Try.f19) [1,1,1,1,1])] [.code (csub (cd Try.f19) [1,1,1,1,0,1,0,1,1,1,0,1,1,1]), .inBlock 2, .code (csub (cd Try.f19) [1,1,1,1,1])] (by kernel_rfl) (fun h349 => ?_) (fun h349 => ?_)
                  ·
                    have hM350 : Mem [] w0 w344 [] := hM347.sub (cn (cn (List.Sublist.refl _)))
                    refine GoS.run [2] [.n, .n, .n, .n] _ [.code (csub (cd Try.f19) [1,1,1,1,0,1,0,1,1,1,0,1,1,0,1]), .inBlock 2, .code (csub (cd Try.f19) [1,1,1,1,1])] [(2, .bool false)] w344 (by kernel_rfl) .nil ?_
                    refine GoS.ret (fn := Try.f19) (v := (.bool false)) Try.func19 (by kernel_rfl) ?_
                    rw [hR]
                    have hall : rightL q.l = true := by rw [← tk_all (l := q.l) (i := i) (by omega)]; exact hRt
                    have hro := right_of hall
                    rw [← he] at hro
                    exact ⟨ret_bool (by rw [hro, node_name (by omega) (by have z := h349; simpa using z)]), hM350.sub (List.nil_sublist _)⟩
                  ·
                    refine GoS.run [1, 5, 6] [.n] _ [.inBlock 2, .code (csub (cd Try.f19) [1,1,1,1,1])] [(1, pq b), (5, pq b2), (6, .int .i64 0)] w344 (by kernel_rfl) .nil ?_
                    refine GoS.run [1, 5, 6] [.n, .n] _ [.code (csub (cd Try.f19) [1,1,1,1,1,0]), .code (csub (cd Try.f19) [1,1,1,1,1,1])] [(1, pq b), (5, pq b2), (6, .int .i64 0)] w344 (by kernel_rfl) .nil ?_
                    obtain ⟨w378, hw379⟩ : ∃ w_, (w344).drewN 1 = w_ := ⟨_, rfl⟩
                    refine GoS.held (fun W_ => Mem [] w0 W_ [⟨25, 8, (obj b2), 1, [.int .i64 (h.op), .string (sb (h.field)), .string (sb ([])), .int .i64 0, .int .i64 0, .int .u64 (h.lo), .int .u64 (h.hi), v]⟩, ⟨25, 8, (obj b), 1, (qR h v)⟩]) [] 31 (by kernel_rfl) (by kernel_rfl) 13 (by kernel_rfl) ?_
                    rw [hw379]
                    have hM380 : Mem [] w0 w378 [⟨25, 8, (obj b2), 1, [.int .i64 (h.op), .string (sb (h.field)), .string (sb ([])), .int .i64 0, .int .i64 0, .int .u64 (h.lo), .int .u64 (h.hi), v]⟩, ⟨25, 8, (obj b), 1, (qR h v)⟩] := hw379 ▸ hM347.ext (Kept.drewN _ _ 1)
                    have hS381 : Mem [] w0 w378 [⟨25, 8, (obj b2), 1, [.int .i64 (h.op), .string (sb (h.field)), .string (sb ([])), .int .i64 0, .int .i64 0, .int .u64 (h.lo), .int .u64 (h.hi), v]⟩, ⟨25, 8, (obj b), 1, (qR h v)⟩] := hM380.sub (cc (cc (List.Sublist.refl _)))
                    refine GoH.takeV 0 (.pointer (some (⟨b, 7, none⟩))) (.pointer (some (⟨b, 7, none⟩))) (some 81) (fun W_ => by kernel_rfl) rfl hS381 ?_
                    refine GoH.takeF 1 (v) (fun W_ => (Instr.loadAt 23 (.pointer (some (⟨b, 7, none⟩)))).run Try.prog W_ = .ok (v) W_) (some 82) (fun W_ => by kernel_rfl) (fun W_ hW_ => c_load pE23 (hW_.rd 1 rfl) (cel_obj b 7) rfl) hS381 ?_
                    refine GoH.takeF 2 (.int .i64 (((List.length L) : Nat) : Int)) (fun W_ => (Builtin.len_ #[23] 3 #[v]).run Try.prog W_ = .ok (.int .i64 (((List.length L) : Nat) : Int)) W_) (some 83) (fun W_ => by kernel_rfl) (fun W_ hW_ => f_slen sT23 (hr.kept0 hW_.kept) 3 _) hS381 ?_
                    refine GoH.takeV 3 (.int .i64 0) (.int .i64 0) (some 84) (fun W_ => by kernel_rfl) rfl hS381 ?_
                    refine GoH.takeV 4 (.bool ((((List.length L) : Nat) : Int) == 0)) (.bool ((((List.length L) : Nat) : Int) == 0)) (some 85) (fun W_ => by kernel_rfl) rfl hS381 ?_
                    rcases Bool.eq_false_or_eq_true ((((List.length L) : Nat) : Int) == 0) with h382 | h382
                    ·
                      have h382p : (((List.length L) : Nat) : Int) = 0 := eq_of_beq h382
                      refine GoH.takeV 5 (.bool ((((List.length L) : Nat) : Int) == 0)) (.bool true) (some 86) (fun W_ => by kernel_rfl) (congrArg Value.bool h382) hS381 ?_
                      refine GoH.takeF 6 ((qA h v)) (fun W_ => (Instr.loadAt 25 (pq b)).run Try.prog W_ = .ok ((qA h v)) W_) (some 87) (fun W_ => by kernel_rfl) (fun W_ hW_ => c_loads (ys := (qR h v)) aE25 (hW_.rd 1 rfl) (cel_obj b 0) rfl (by intro j u hj; match j, hj with | 0, hj => exact hj | 1, hj => exact hj | 2, hj => exact hj | 3, hj => exact hj | 4, hj => exact hj | 5, hj => exact hj | 6, hj => exact hj | 7, hj => exact hj | n + 8, hj => cases hj)) hS381 ?_
                      refine GoH.takeF 8 (.agg #[.int .i64 (h.op), .string (sb (h.field)), .string (sb ([])), .int .i64 0, .int .i64 0, .int .u64 (h.lo), .int .u64 (h.hi), v]) (fun W_ => (Instr.loadAt 25 (pq b2)).run Try.prog W_ = .ok (.agg #[.int .i64 (h.op), .string (sb (h.field)), .string (sb ([])), .int .i64 0, .int .i64 0, .int .u64 (h.lo), .int .u64 (h.hi), v]) W_) (some 89) (fun W_ => by kernel_rfl) (fun W_ hW_ => c_loads (ys := [.int .i64 (h.op), .string (sb (h.field)), .string (sb ([])), .int .i64 0, .int .i64 0, .int .u64 (h.lo), .int .u64 (h.hi), v]) aE25 (hW_.rd 0 rfl) (cel_obj b2 0) rfl (by intro j u hj; match j, hj with | 0, hj => exact hj | 1, hj => exact hj | 2, hj => exact hj | 3, hj => exact hj | 4, hj => exact hj | 5, hj => exact hj | 6, hj => exact hj | 7, hj => exact hj | n + 8, hj => cases hj)) hS381 ?_
                      refine GoH.callF 7 21 #[(qA h v)] (some 88) (by kernel_rfl) (flat_c (w := w378) h v) ?_
                      rintro _ w383 ⟨rfl, m384⟩
                      have hM385 : Mem [] w0 w383 [⟨25, 8, (obj b2), 1, [.int .i64 (h.op), .string (sb (h.field)), .string (sb ([])), .int .i64 0, .int .i64 0, .int .u64 (h.lo), .int .u64 (h.hi), v]⟩, ⟨25, 8, (obj b), 1, (qR h v)⟩] := Mem.join (R := []) hM380 m384
                      have hS386 : Mem [] w0 w383 [⟨25, 8, (obj b2), 1, [.int .i64 (h.op), .string (sb (h.field)), .string (sb ([])), .int .i64 0, .int .i64 0, .int .u64 (h.lo), .int .u64 (h.hi), v]⟩, ⟨25, 8, (obj b), 1, (qR h v)⟩] := hM385.sub (cc (cc (List.Sublist.refl _)))
                      refine ⟨(qH h), rfl, .inr hS386, ?_⟩
                      refine GoH.callF 9 21 #[.agg #[.int .i64 (h.op), .string (sb (h.field)), .string (sb ([])), .int .i64 0, .int .i64 0, .int .u64 (h.lo), .int .u64 (h.hi), v]] (some 90) (by kernel_rfl) (flat_c (w := w383) (Hd.mk (h.op) (h.field) ([]) 0 0 (h.lo) (h.hi)) v) ?_
                      rintro _ w387 ⟨rfl, m388⟩
                      have hM389 : Mem [] w0 w387 [⟨25, 8, (obj b2), 1, [.int .i64 (h.op), .string (sb (h.field)), .string (sb ([])), .int .i64 0, .int .i64 0, .int .u64 (h.lo), .int .u64 (h.hi), v]⟩, ⟨25, 8, (obj b), 1, (qR h v)⟩] := Mem.join (R := []) hM385 m388
                      have hS390 : Mem [] w0 w387 [⟨25, 8, (obj b2), 1, [.int .i64 (h.op), .string (sb (h.field)), .string (sb ([])), .int .i64 0, .int .i64 0, .int .u64 (h.lo), .int .u64 (h.hi), v]⟩, ⟨25, 8, (obj b), 1, (qR h v)⟩] := hM389.sub (cc (cc (List.Sublist.refl _)))
                      refine ⟨.agg #[.int .i64 (h.op), .string (sb (h.field)), .string (sb ([])), .int .i64 0, .int .i64 0, .int .u64 (h.lo), .int .u64 (h.hi)], rfl, .inr hS390, ?_⟩
                      refine GoH.takeF 10 (.bool (nothP h false false true)) (fun W_ => Try.prog.eqGuardType Try.prog.depth 38 = false ∧ (binOp .eql 38 ((qH h)) (.agg #[.int .i64 (h.op), .string (sb (h.field)), .string (sb ([])), .int .i64 0, .int .i64 0, .int .u64 (h.lo), .int .u64 (h.hi)])).run Try.prog W_ = .ok (.bool (nothP h false false true)) W_) (some 91) (fun W_ => by kernel_rfl) (fun W_ hW_ => f_ageq eT38 (xs := [.int .i64 (h.op), .string (sb (h.field)), .string (sb (h.text)), .int .i64 (h.edits), .int .i64 (h.exact), .int .u64 (h.lo), .int .u64 (h.hi)]) (ys := [.int .i64 (h.op), .string (sb (h.field)), .string (sb ([])), .int .i64 0, .int .i64 0, .int .u64 (h.lo), .int .u64 (h.hi)]) (r := ((h.op == h.op) && (((sb (h.field)).toList == (sb (h.field)).toList) && (((sb (h.text)).toList == (sb ([])).toList) && ((h.edits == 0) && ((h.exact == 0) && ((h.lo == h.lo) && ((h.hi == h.hi) && true)))))))) (by kernel_rfl) (noth_r h)) hS390 ?_
                      refine GoH.takeV 11 (.bool (nothP h false false true)) (.bool (nothP h false false true)) (some 92) (fun W_ => by kernel_rfl) rfl hS390 ?_
                      refine GoH.takeV 12 (.bool (nothP h false false true)) (.bool (nothP h false false true)) (some 2) (fun W_ => by kernel_rfl) rfl hS390 ?_
                      refine GoH.done [2] [(2, .bool (nothP h false false true))] (by kernel_rfl) (by kernel_rfl) ?_
                      have hM391 : Mem [] w0 w387 [] := hM389.sub (cn (cn (List.Sublist.refl _)))
                      refine GoS.ret (fn := Try.f19) (v := (.bool (nothP h false false true))) Try.func19 (by kernel_rfl) ?_
                      rw [hR]
                      have hall : rightL q.l = true := by rw [← tk_all (l := q.l) (i := i) (by omega)]; exact hRt
                      have hro := right_of hall
                      rw [← he] at hro
                      exact ⟨ret_bool (by rw [hro, node_range (by omega) (by have z := h349; simpa using z) (by omega)]), hM391.sub (List.nil_sublist _)⟩
                    ·
                      have h382p : ¬ ((((List.length L) : Nat) : Int) = 0) := p_ne h382
                      refine GoH.takeV 5 (.bool ((((List.length L) : Nat) : Int) == 0)) (.bool false) (some 86) (fun W_ => by kernel_rfl) (congrArg Value.bool h382) hS381 ?_
                      refine GoH.skipF 6 (some 87) (by kernel_rfl) hS381 ?_
                      refine GoH.skipF 7 (some 88) (by kernel_rfl) hS381 ?_
                      refine GoH.skipF 8 (some 89) (by kernel_rfl) hS381 ?_
                      refine GoH.skipF 9 (some 90) (by kernel_rfl) hS381 ?_
                      refine GoH.skipF 10 (some 91) (by kernel_rfl) hS381 ?_
                      refine GoH.takeV 11 (.bool false) (.bool false) (some 92) (fun W_ => by kernel_rfl) rfl hS381 ?_
                      refine GoH.takeV 12 (.bool false) (.bool false) (some 2) (fun W_ => by kernel_rfl) rfl hS381 ?_
                      refine GoH.done [2] [(2, .bool false)] (by kernel_rfl) (by kernel_rfl) ?_
                      have hM392 : Mem [] w0 w378 [] := hM380.sub (cn (cn (List.Sublist.refl _)))
                      refine GoS.ret (fn := Try.f19) (v := (.bool false)) Try.func19 (by kernel_rfl) ?_
                      rw [hR]
                      have hall : rightL q.l = true := by rw [← tk_all (l := q.l) (i := i) (by omega)]; exact hRt
                      have hro := right_of hall
                      rw [← he] at hro
                      exact ⟨ret_bool (by rw [hro, node_many (by omega) (by omega)]), hM392.sub (List.nil_sublist _)⟩
                ·
                  have h329p : ¬ (h.op = 6) := p_ne h329
                  refine GoS.run [1, 5, 6, 24, 70] [.n, .n, .n, .n, .n, .n] _ [.code (csub (cd Try.f19) [1,1,1,1,0,1,0,1,1,1,1,0,1]), .code (csub (cd Try.f19) [1,1,1,1,0,1,0,1,1,1,1,1]), .inBlock 2, .code (csub (cd Try.f19) [1,1,1,1,1])] [(1, pq b), (5, pq b2), (6, .int .i64 0), (24, .int .i64 (h.op)), (70, .bool (h.op == 7))] w7 (by kernel_rfl) .nil ?_
                  refine GoS.cond (h.op == 7) [.code (csub (cd Try.f19) [1,1,1,1,0,1,0,1,1,1,1,0,1,0]), .code (csub (cd Try.f19) [1,1,1,1,0,1,0,1,1,1,1,1]), .inBlock 2, .code (csub (cd Try.f19) [1,1,1,1,1])] [.code (csub (cd Try.f19) [1,1,1,1,0,1,0,1,1,1,1,0,1,1]), .code (csub (cd Try.f19) [1,1,1,1,0,1,0,1,1,1,1,1]), .inBlock 2, .code (csub (cd Try.f19) [1,1,1,1,1])] (by kernel_rfl) (fun h351 => ?_) (fun h351 => ?_)
                  ·
                    have h351p : h.op = 7 := eq_of_beq h351
                    refine GoS.run [1, 5, 6, 24, 70] [.n] _ [.code (csub (cd Try.f19) [1,1,1,1,0,1,0,1,1,1,1,1]), .inBlock 2, .code (csub (cd Try.f19) [1,1,1,1,1])] [(1, pq b), (5, pq b2), (6, .int .i64 0), (24, .int .i64 (h.op)), (70, .bool (h.op == 7))] w7 (by kernel_rfl) .nil ?_
                    refine GoS.cond (h.op == 7) [.code (csub (cd Try.f19) [1,1,1,1,0,1,0,1,1,1,1,1,0]), .inBlock 2, .code (csub (cd Try.f19) [1,1,1,1,1])] [.code (csub (cd Try.f19) [1,1,1,1,0,1,0,1,1,1,1,1,1]), .inBlock 2, .code (csub (cd Try.f19) [1,1,1,1,1])] (by kernel_rfl) (fun h352 => ?_) (fun h352 => ?_)
                    ·
                      have h352p : h.op = 7 := eq_of_beq h352
                      have o353 : (Instr.loadAt 23 (.pointer (some (⟨b, 7, none⟩)))).run Try.prog w7 = .ok (v) w7 := c_load pE23 (hM10.rd 1 rfl) (cel_obj b 7) rfl
                      have o354 : (Builtin.len_ #[23] 3 #[v]).run Try.prog w7 = .ok (.int .i64 (((List.length L) : Nat) : Int)) w7 := f_slen sT23 (hr.kept0 hM10.kept) 3 _
                      have o355 : (Builtin.max_ #[3, 3] 3 #[.int .i64 2, .int .i64 (((List.length L) : Nat) : Int)]).run Try.prog w7 = .ok (.int .i64 (((max 2 (List.length L)) : Nat) : Int)) w7 := f_max (by split <;> omega)
                      refine GoS.run [1, 5, 6] [.n, .n, .h (v), .h (.int .i64 (((List.length L) : Nat) : Int)), .h (.int .i64 (((max 2 (List.length L)) : Nat) : Int)), .n, .n] _ [.inBlock 2, .code (csub (cd Try.f19) [1,1,1,1,1])] [(1, pq b), (5, pq b2), (6, .int .i64 (((max 2 (List.length L)) : Nat) : Int))] w7 (by kernel_rfl) (.cons o353 (.cons o354 (.cons o355 .nil))) ?_
                      refine GoS.run [1, 5, 6] [.n, .n] _ [.code (csub (cd Try.f19) [1,1,1,1,1,0]), .code (csub (cd Try.f19) [1,1,1,1,1,1])] [(1, pq b), (5, pq b2), (6, .int .i64 (((max 2 (List.length L)) : Nat) : Int))] w7 (by kernel_rfl) .nil ?_
                      obtain ⟨w393, hw394⟩ : ∃ w_, (w7).drewN 1 = w_ := ⟨_, rfl⟩
                      refine GoS.held (fun W_ => Mem [] w0 W_ [⟨25, 8, (obj b2), 1, [.int .i64 (h.op), .string (sb ([])), .string (sb ([])), .int .i64 0, .int .i64 0, .int .u64 0, .int .u64 0, v]⟩, ⟨25, 8, (obj b), 1, (qR h v)⟩]) [] 31 (by kernel_rfl) (by kernel_rfl) 13 (by kernel_rfl) ?_
                      rw [hw394]
                      have hM395 : Mem [] w0 w393 [⟨25, 8, (obj b2), 1, [.int .i64 (h.op), .string (sb ([])), .string (sb ([])), .int .i64 0, .int .i64 0, .int .u64 0, .int .u64 0, v]⟩, ⟨25, 8, (obj b), 1, (qR h v)⟩] := hw394 ▸ hM10.ext (Kept.drewN _ _ 1)
                      have hS396 : Mem [] w0 w393 [⟨25, 8, (obj b2), 1, [.int .i64 (h.op), .string (sb ([])), .string (sb ([])), .int .i64 0, .int .i64 0, .int .u64 0, .int .u64 0, v]⟩, ⟨25, 8, (obj b), 1, (qR h v)⟩] := hM395.sub (cc (cc (List.Sublist.refl _)))
                      refine GoH.takeV 0 (.pointer (some (⟨b, 7, none⟩))) (.pointer (some (⟨b, 7, none⟩))) (some 81) (fun W_ => by kernel_rfl) rfl hS396 ?_
                      refine GoH.takeF 1 (v) (fun W_ => (Instr.loadAt 23 (.pointer (some (⟨b, 7, none⟩)))).run Try.prog W_ = .ok (v) W_) (some 82) (fun W_ => by kernel_rfl) (fun W_ hW_ => c_load pE23 (hW_.rd 1 rfl) (cel_obj b 7) rfl) hS396 ?_
                      refine GoH.takeF 2 (.int .i64 (((List.length L) : Nat) : Int)) (fun W_ => (Builtin.len_ #[23] 3 #[v]).run Try.prog W_ = .ok (.int .i64 (((List.length L) : Nat) : Int)) W_) (some 83) (fun W_ => by kernel_rfl) (fun W_ hW_ => f_slen sT23 (hr.kept0 hW_.kept) 3 _) hS396 ?_
                      refine GoH.takeV 3 (.int .i64 (((max 2 (List.length L)) : Nat) : Int)) (.int .i64 (((max 2 (List.length L)) : Nat) : Int)) (some 84) (fun W_ => by kernel_rfl) rfl hS396 ?_
                      refine GoH.takeV 4 (.bool ((((List.length L) : Nat) : Int) == (((max 2 (List.length L)) : Nat) : Int))) (.bool ((((List.length L) : Nat) : Int) == (((max 2 (List.length L)) : Nat) : Int))) (some 85) (fun W_ => by kernel_rfl) rfl hS396 ?_
                      rcases Bool.eq_false_or_eq_true ((((List.length L) : Nat) : Int) == (((max 2 (List.length L)) : Nat) : Int)) with h397 | h397
                      ·
                        have h397p : (((List.length L) : Nat) : Int) = (((max 2 (List.length L)) : Nat) : Int) := eq_of_beq h397
                        refine GoH.takeV 5 (.bool ((((List.length L) : Nat) : Int) == (((max 2 (List.length L)) : Nat) : Int))) (.bool true) (some 86) (fun W_ => by kernel_rfl) (congrArg Value.bool h397) hS396 ?_
                        refine GoH.takeF 6 ((qA h v)) (fun W_ => (Instr.loadAt 25 (pq b)).run Try.prog W_ = .ok ((qA h v)) W_) (some 87) (fun W_ => by kernel_rfl) (fun W_ hW_ => c_loads (ys := (qR h v)) aE25 (hW_.rd 1 rfl) (cel_obj b 0) rfl (by intro j u hj; match j, hj with | 0, hj => exact hj | 1, hj => exact hj | 2, hj => exact hj | 3, hj => exact hj | 4, hj => exact hj | 5, hj => exact hj | 6, hj => exact hj | 7, hj => exact hj | n + 8, hj => cases hj)) hS396 ?_
                        refine GoH.takeF 8 (.agg #[.int .i64 (h.op), .string (sb ([])), .string (sb ([])), .int .i64 0, .int .i64 0, .int .u64 0, .int .u64 0, v]) (fun W_ => (Instr.loadAt 25 (pq b2)).run Try.prog W_ = .ok (.agg #[.int .i64 (h.op), .string (sb ([])), .string (sb ([])), .int .i64 0, .int .i64 0, .int .u64 0, .int .u64 0, v]) W_) (some 89) (fun W_ => by kernel_rfl) (fun W_ hW_ => c_loads (ys := [.int .i64 (h.op), .string (sb ([])), .string (sb ([])), .int .i64 0, .int .i64 0, .int .u64 0, .int .u64 0, v]) aE25 (hW_.rd 0 rfl) (cel_obj b2 0) rfl (by intro j u hj; match j, hj with | 0, hj => exact hj | 1, hj => exact hj | 2, hj => exact hj | 3, hj => exact hj | 4, hj => exact hj | 5, hj => exact hj | 6, hj => exact hj | 7, hj => exact hj | n + 8, hj => cases hj)) hS396 ?_
                        refine GoH.callF 7 21 #[(qA h v)] (some 88) (by kernel_rfl) (flat_c (w := w393) h v) ?_
                        rintro _ w398 ⟨rfl, m399⟩
                        have hM400 : Mem [] w0 w398 [⟨25, 8, (obj b2), 1, [.int .i64 (h.op), .string (sb ([])), .string (sb ([])), .int .i64 0, .int .i64 0, .int .u64 0, .int .u64 0, v]⟩, ⟨25, 8, (obj b), 1, (qR h v)⟩] := Mem.join (R := []) hM395 m399
                        have hS401 : Mem [] w0 w398 [⟨25, 8, (obj b2), 1, [.int .i64 (h.op), .string (sb ([])), .string (sb ([])), .int .i64 0, .int .i64 0, .int .u64 0, .int .u64 0, v]⟩, ⟨25, 8, (obj b), 1, (qR h v)⟩] := hM400.sub (cc (cc (List.Sublist.refl _)))
                        refine ⟨(qH h), rfl, .inr hS401, ?_⟩
                        refine GoH.callF 9 21 #[.agg #[.int .i64 (h.op), .string (sb ([])), .string (sb ([])), .int .i64 0, .int .i64 0, .int .u64 0, .int .u64 0, v]] (some 90) (by kernel_rfl) (flat_c (w := w398) (Hd.mk (h.op) ([]) ([]) 0 0 0 0) v) ?_
                        rintro _ w402 ⟨rfl, m403⟩
                        have hM404 : Mem [] w0 w402 [⟨25, 8, (obj b2), 1, [.int .i64 (h.op), .string (sb ([])), .string (sb ([])), .int .i64 0, .int .i64 0, .int .u64 0, .int .u64 0, v]⟩, ⟨25, 8, (obj b), 1, (qR h v)⟩] := Mem.join (R := []) hM400 m403
                        have hS405 : Mem [] w0 w402 [⟨25, 8, (obj b2), 1, [.int .i64 (h.op), .string (sb ([])), .string (sb ([])), .int .i64 0, .int .i64 0, .int .u64 0, .int .u64 0, v]⟩, ⟨25, 8, (obj b), 1, (qR h v)⟩] := hM404.sub (cc (cc (List.Sublist.refl _)))
                        refine ⟨.agg #[.int .i64 (h.op), .string (sb ([])), .string (sb ([])), .int .i64 0, .int .i64 0, .int .u64 0, .int .u64 0], rfl, .inr hS405, ?_⟩
                        refine GoH.takeF 10 (.bool (decide (h.field = []) && nothP h false false false)) (fun W_ => Try.prog.eqGuardType Try.prog.depth 38 = false ∧ (binOp .eql 38 ((qH h)) (.agg #[.int .i64 (h.op), .string (sb ([])), .string (sb ([])), .int .i64 0, .int .i64 0, .int .u64 0, .int .u64 0])).run Try.prog W_ = .ok (.bool (decide (h.field = []) && nothP h false false false)) W_) (some 91) (fun W_ => by kernel_rfl) (fun W_ hW_ => f_ageq eT38 (xs := [.int .i64 (h.op), .string (sb (h.field)), .string (sb (h.text)), .int .i64 (h.edits), .int .i64 (h.exact), .int .u64 (h.lo), .int .u64 (h.hi)]) (ys := [.int .i64 (h.op), .string (sb ([])), .string (sb ([])), .int .i64 0, .int .i64 0, .int .u64 0, .int .u64 0]) (r := ((h.op == h.op) && (((sb (h.field)).toList == (sb ([])).toList) && (((sb (h.text)).toList == (sb ([])).toList) && ((h.edits == 0) && ((h.exact == 0) && ((h.lo == 0) && ((h.hi == 0) && true)))))))) (by kernel_rfl) (noth_b h)) hS405 ?_
                        refine GoH.takeV 11 (.bool (decide (h.field = []) && nothP h false false false)) (.bool (decide (h.field = []) && nothP h false false false)) (some 92) (fun W_ => by kernel_rfl) rfl hS405 ?_
                        refine GoH.takeV 12 (.bool (decide (h.field = []) && nothP h false false false)) (.bool (decide (h.field = []) && nothP h false false false)) (some 2) (fun W_ => by kernel_rfl) rfl hS405 ?_
                        refine GoH.done [2] [(2, .bool (decide (h.field = []) && nothP h false false false))] (by kernel_rfl) (by kernel_rfl) ?_
                        have hM406 : Mem [] w0 w402 [] := hM404.sub (cn (cn (List.Sublist.refl _)))
                        refine GoS.ret (fn := Try.f19) (v := (.bool (decide (h.field = []) && nothP h false false false))) Try.func19 (by kernel_rfl) ?_
                        rw [hR]
                        have hall : rightL q.l = true := by rw [← tk_all (l := q.l) (i := i) (by omega)]; exact hRt
                        have hro := right_of hall
                        rw [← he] at hro
                        have hmx : L.length = max 2 L.length := Int.ofNat.inj h397p
                        exact ⟨ret_bool (by first | (rw [hro, node_join (by omega), (show decide (2 ≤ q.l.length) = true from decide_eq_true (by omega))]; rfl) | (rw [hro, node_not (by omega), (show decide (q.l.length = 1) = true from decide_eq_true (by omega))]; rfl) | (rw [hro, node_all (by omega), (show decide (q.l.length = 0) = true from decide_eq_true (by omega))]; rfl)), hM406.sub (List.nil_sublist _)⟩
                      ·
                        have h397p : ¬ ((((List.length L) : Nat) : Int) = (((max 2 (List.length L)) : Nat) : Int)) := p_ne h397
                        refine GoH.takeV 5 (.bool ((((List.length L) : Nat) : Int) == (((max 2 (List.length L)) : Nat) : Int))) (.bool false) (some 86) (fun W_ => by kernel_rfl) (congrArg Value.bool h397) hS396 ?_
                        refine GoH.skipF 6 (some 87) (by kernel_rfl) hS396 ?_
                        refine GoH.skipF 7 (some 88) (by kernel_rfl) hS396 ?_
                        refine GoH.skipF 8 (some 89) (by kernel_rfl) hS396 ?_
                        refine GoH.skipF 9 (some 90) (by kernel_rfl) hS396 ?_
                        refine GoH.skipF 10 (some 91) (by kernel_rfl) hS396 ?_
                        refine GoH.takeV 11 (.bool false) (.bool false) (some 92) (fun W_ => by kernel_rfl) rfl hS396 ?_
                        refine GoH.takeV 12 (.bool false) (.bool false) (some 2) (fun W_ => by kernel_rfl) rfl hS396 ?_
                        refine GoH.done [2] [(2, .bool false)] (by kernel_rfl) (by kernel_rfl) ?_
                        have hM407 : Mem [] w0 w393 [] := hM395.sub (cn (cn (List.Sublist.refl _)))
                        refine GoS.ret (fn := Try.f19) (v := (.bool false)) Try.func19 (by kernel_rfl) ?_
                        rw [hR]
                        have hall : rightL q.l = true := by rw [← tk_all (l := q.l) (i := i) (by omega)]; exact hRt
                        have hro := right_of hall
                        rw [← he] at hro
                        have hmx : ¬ L.length = max 2 L.length := fun z => h397p (congrArg Int.ofNat z)
                        exact ⟨ret_bool (by first | (rw [hro, node_join (by omega), (show decide (2 ≤ q.l.length) = false from decide_eq_false (by omega))]; rfl) | (rw [hro, node_not (by omega), (show decide (q.l.length = 1) = false from decide_eq_false (by omega))]; rfl) | (rw [hro, node_all (by omega), (show decide (q.l.length = 0) = false from decide_eq_false (by omega))]; rfl)), hM407.sub (List.nil_sublist _)⟩
                    ·
                      rw [h351] at h352; cases h352
                  ·
                    have h351p : ¬ (h.op = 7) := p_ne h351
                    refine GoS.run [1, 5, 6, 24, 70] [.n, .n, .n, .n] _ [.code (csub (cd Try.f19) [1,1,1,1,0,1,0,1,1,1,1,1]), .inBlock 2, .code (csub (cd Try.f19) [1,1,1,1,1])] [(1, pq b), (5, pq b2), (6, .int .i64 0), (24, .int .i64 (h.op)), (70, .bool (h.op == 8))] w7 (by kernel_rfl) .nil ?_
                    refine GoS.cond (h.op == 8) [.code (csub (cd Try.f19) [1,1,1,1,0,1,0,1,1,1,1,1,0]), .inBlock 2, .code (csub (cd Try.f19) [1,1,1,1,1])] [.code (csub (cd Try.f19) [1,1,1,1,0,1,0,1,1,1,1,1,1]), .inBlock 2, .code (csub (cd Try.f19) [1,1,1,1,1])] (by kernel_rfl) (fun h356 => ?_) (fun h356 => ?_)
                    ·
                      have h356p : h.op = 8 := eq_of_beq h356
                      have o357 : (Instr.loadAt 23 (.pointer (some (⟨b, 7, none⟩)))).run Try.prog w7 = .ok (v) w7 := c_load pE23 (hM10.rd 1 rfl) (cel_obj b 7) rfl
                      have o358 : (Builtin.len_ #[23] 3 #[v]).run Try.prog w7 = .ok (.int .i64 (((List.length L) : Nat) : Int)) w7 := f_slen sT23 (hr.kept0 hM10.kept) 3 _
                      have o359 : (Builtin.max_ #[3, 3] 3 #[.int .i64 2, .int .i64 (((List.length L) : Nat) : Int)]).run Try.prog w7 = .ok (.int .i64 (((max 2 (List.length L)) : Nat) : Int)) w7 := f_max (by split <;> omega)
                      refine GoS.run [1, 5, 6] [.n, .n, .h (v), .h (.int .i64 (((List.length L) : Nat) : Int)), .h (.int .i64 (((max 2 (List.length L)) : Nat) : Int)), .n, .n] _ [.inBlock 2, .code (csub (cd Try.f19) [1,1,1,1,1])] [(1, pq b), (5, pq b2), (6, .int .i64 (((max 2 (List.length L)) : Nat) : Int))] w7 (by kernel_rfl) (.cons o357 (.cons o358 (.cons o359 .nil))) ?_
                      refine GoS.run [1, 5, 6] [.n, .n] _ [.code (csub (cd Try.f19) [1,1,1,1,1,0]), .code (csub (cd Try.f19) [1,1,1,1,1,1])] [(1, pq b), (5, pq b2), (6, .int .i64 (((max 2 (List.length L)) : Nat) : Int))] w7 (by kernel_rfl) .nil ?_
                      obtain ⟨w408, hw409⟩ : ∃ w_, (w7).drewN 1 = w_ := ⟨_, rfl⟩
                      refine GoS.held (fun W_ => Mem [] w0 W_ [⟨25, 8, (obj b2), 1, [.int .i64 (h.op), .string (sb ([])), .string (sb ([])), .int .i64 0, .int .i64 0, .int .u64 0, .int .u64 0, v]⟩, ⟨25, 8, (obj b), 1, (qR h v)⟩]) [] 31 (by kernel_rfl) (by kernel_rfl) 13 (by kernel_rfl) ?_
                      rw [hw409]
                      have hM410 : Mem [] w0 w408 [⟨25, 8, (obj b2), 1, [.int .i64 (h.op), .string (sb ([])), .string (sb ([])), .int .i64 0, .int .i64 0, .int .u64 0, .int .u64 0, v]⟩, ⟨25, 8, (obj b), 1, (qR h v)⟩] := hw409 ▸ hM10.ext (Kept.drewN _ _ 1)
                      have hS411 : Mem [] w0 w408 [⟨25, 8, (obj b2), 1, [.int .i64 (h.op), .string (sb ([])), .string (sb ([])), .int .i64 0, .int .i64 0, .int .u64 0, .int .u64 0, v]⟩, ⟨25, 8, (obj b), 1, (qR h v)⟩] := hM410.sub (cc (cc (List.Sublist.refl _)))
                      refine GoH.takeV 0 (.pointer (some (⟨b, 7, none⟩))) (.pointer (some (⟨b, 7, none⟩))) (some 81) (fun W_ => by kernel_rfl) rfl hS411 ?_
                      refine GoH.takeF 1 (v) (fun W_ => (Instr.loadAt 23 (.pointer (some (⟨b, 7, none⟩)))).run Try.prog W_ = .ok (v) W_) (some 82) (fun W_ => by kernel_rfl) (fun W_ hW_ => c_load pE23 (hW_.rd 1 rfl) (cel_obj b 7) rfl) hS411 ?_
                      refine GoH.takeF 2 (.int .i64 (((List.length L) : Nat) : Int)) (fun W_ => (Builtin.len_ #[23] 3 #[v]).run Try.prog W_ = .ok (.int .i64 (((List.length L) : Nat) : Int)) W_) (some 83) (fun W_ => by kernel_rfl) (fun W_ hW_ => f_slen sT23 (hr.kept0 hW_.kept) 3 _) hS411 ?_
                      refine GoH.takeV 3 (.int .i64 (((max 2 (List.length L)) : Nat) : Int)) (.int .i64 (((max 2 (List.length L)) : Nat) : Int)) (some 84) (fun W_ => by kernel_rfl) rfl hS411 ?_
                      refine GoH.takeV 4 (.bool ((((List.length L) : Nat) : Int) == (((max 2 (List.length L)) : Nat) : Int))) (.bool ((((List.length L) : Nat) : Int) == (((max 2 (List.length L)) : Nat) : Int))) (some 85) (fun W_ => by kernel_rfl) rfl hS411 ?_
                      rcases Bool.eq_false_or_eq_true ((((List.length L) : Nat) : Int) == (((max 2 (List.length L)) : Nat) : Int)) with h412 | h412
                      ·
                        have h412p : (((List.length L) : Nat) : Int) = (((max 2 (List.length L)) : Nat) : Int) := eq_of_beq h412
                        refine GoH.takeV 5 (.bool ((((List.length L) : Nat) : Int) == (((max 2 (List.length L)) : Nat) : Int))) (.bool true) (some 86) (fun W_ => by kernel_rfl) (congrArg Value.bool h412) hS411 ?_
                        refine GoH.takeF 6 ((qA h v)) (fun W_ => (Instr.loadAt 25 (pq b)).run Try.prog W_ = .ok ((qA h v)) W_) (some 87) (fun W_ => by kernel_rfl) (fun W_ hW_ => c_loads (ys := (qR h v)) aE25 (hW_.rd 1 rfl) (cel_obj b 0) rfl (by intro j u hj; match j, hj with | 0, hj => exact hj | 1, hj => exact hj | 2, hj => exact hj | 3, hj => exact hj | 4, hj => exact hj | 5, hj => exact hj | 6, hj => exact hj | 7, hj => exact hj | n + 8, hj => cases hj)) hS411 ?_
                        refine GoH.takeF 8 (.agg #[.int .i64 (h.op), .string (sb ([])), .string (sb ([])), .int .i64 0, .int .i64 0, .int .u64 0, .int .u64 0, v]) (fun W_ => (Instr.loadAt 25 (pq b2)).run Try.prog W_ = .ok (.agg #[.int .i64 (h.op), .string (sb ([])), .string (sb ([])), .int .i64 0, .int .i64 0, .int .u64 0, .int .u64 0, v]) W_) (some 89) (fun W_ => by kernel_rfl) (fun W_ hW_ => c_loads (ys := [.int .i64 (h.op), .string (sb ([])), .string (sb ([])), .int .i64 0, .int .i64 0, .int .u64 0, .int .u64 0, v]) aE25 (hW_.rd 0 rfl) (cel_obj b2 0) rfl (by intro j u hj; match j, hj with | 0, hj => exact hj | 1, hj => exact hj | 2, hj => exact hj | 3, hj => exact hj | 4, hj => exact hj | 5, hj => exact hj | 6, hj => exact hj | 7, hj => exact hj | n + 8, hj => cases hj)) hS411 ?_
                        refine GoH.callF 7 21 #[(qA h v)] (some 88) (by kernel_rfl) (flat_c (w := w408) h v) ?_
                        rintro _ w413 ⟨rfl, m414⟩
                        have hM415 : Mem [] w0 w413 [⟨25, 8, (obj b2), 1, [.int .i64 (h.op), .string (sb ([])), .string (sb ([])), .int .i64 0, .int .i64 0, .int .u64 0, .int .u64 0, v]⟩, ⟨25, 8, (obj b), 1, (qR h v)⟩] := Mem.join (R := []) hM410 m414
                        have hS416 : Mem [] w0 w413 [⟨25, 8, (obj b2), 1, [.int .i64 (h.op), .string (sb ([])), .string (sb ([])), .int .i64 0, .int .i64 0, .int .u64 0, .int .u64 0, v]⟩, ⟨25, 8, (obj b), 1, (qR h v)⟩] := hM415.sub (cc (cc (List.Sublist.refl _)))
                        refine ⟨(qH h), rfl, .inr hS416, ?_⟩
                        refine GoH.callF 9 21 #[.agg #[.int .i64 (h.op), .string (sb ([])), .string (sb ([])), .int .i64 0, .int .i64 0, .int .u64 0, .int .u64 0, v]] (some 90) (by kernel_rfl) (flat_c (w := w413) (Hd.mk (h.op) ([]) ([]) 0 0 0 0) v) ?_
                        rintro _ w417 ⟨rfl, m418⟩
                        have hM419 : Mem [] w0 w417 [⟨25, 8, (obj b2), 1, [.int .i64 (h.op), .string (sb ([])), .string (sb ([])), .int .i64 0, .int .i64 0, .int .u64 0, .int .u64 0, v]⟩, ⟨25, 8, (obj b), 1, (qR h v)⟩] := Mem.join (R := []) hM415 m418
                        have hS420 : Mem [] w0 w417 [⟨25, 8, (obj b2), 1, [.int .i64 (h.op), .string (sb ([])), .string (sb ([])), .int .i64 0, .int .i64 0, .int .u64 0, .int .u64 0, v]⟩, ⟨25, 8, (obj b), 1, (qR h v)⟩] := hM419.sub (cc (cc (List.Sublist.refl _)))
                        refine ⟨.agg #[.int .i64 (h.op), .string (sb ([])), .string (sb ([])), .int .i64 0, .int .i64 0, .int .u64 0, .int .u64 0], rfl, .inr hS420, ?_⟩
                        refine GoH.takeF 10 (.bool (decide (h.field = []) && nothP h false false false)) (fun W_ => Try.prog.eqGuardType Try.prog.depth 38 = false ∧ (binOp .eql 38 ((qH h)) (.agg #[.int .i64 (h.op), .string (sb ([])), .string (sb ([])), .int .i64 0, .int .i64 0, .int .u64 0, .int .u64 0])).run Try.prog W_ = .ok (.bool (decide (h.field = []) && nothP h false false false)) W_) (some 91) (fun W_ => by kernel_rfl) (fun W_ hW_ => f_ageq eT38 (xs := [.int .i64 (h.op), .string (sb (h.field)), .string (sb (h.text)), .int .i64 (h.edits), .int .i64 (h.exact), .int .u64 (h.lo), .int .u64 (h.hi)]) (ys := [.int .i64 (h.op), .string (sb ([])), .string (sb ([])), .int .i64 0, .int .i64 0, .int .u64 0, .int .u64 0]) (r := ((h.op == h.op) && (((sb (h.field)).toList == (sb ([])).toList) && (((sb (h.text)).toList == (sb ([])).toList) && ((h.edits == 0) && ((h.exact == 0) && ((h.lo == 0) && ((h.hi == 0) && true)))))))) (by kernel_rfl) (noth_b h)) hS420 ?_
                        refine GoH.takeV 11 (.bool (decide (h.field = []) && nothP h false false false)) (.bool (decide (h.field = []) && nothP h false false false)) (some 92) (fun W_ => by kernel_rfl) rfl hS420 ?_
                        refine GoH.takeV 12 (.bool (decide (h.field = []) && nothP h false false false)) (.bool (decide (h.field = []) && nothP h false false false)) (some 2) (fun W_ => by kernel_rfl) rfl hS420 ?_
                        refine GoH.done [2] [(2, .bool (decide (h.field = []) && nothP h false false false))] (by kernel_rfl) (by kernel_rfl) ?_
                        have hM421 : Mem [] w0 w417 [] := hM419.sub (cn (cn (List.Sublist.refl _)))
                        refine GoS.ret (fn := Try.f19) (v := (.bool (decide (h.field = []) && nothP h false false false))) Try.func19 (by kernel_rfl) ?_
                        rw [hR]
                        have hall : rightL q.l = true := by rw [← tk_all (l := q.l) (i := i) (by omega)]; exact hRt
                        have hro := right_of hall
                        rw [← he] at hro
                        have hmx : L.length = max 2 L.length := Int.ofNat.inj h412p
                        exact ⟨ret_bool (by first | (rw [hro, node_join (by omega), (show decide (2 ≤ q.l.length) = true from decide_eq_true (by omega))]; rfl) | (rw [hro, node_not (by omega), (show decide (q.l.length = 1) = true from decide_eq_true (by omega))]; rfl) | (rw [hro, node_all (by omega), (show decide (q.l.length = 0) = true from decide_eq_true (by omega))]; rfl)), hM421.sub (List.nil_sublist _)⟩
                      ·
                        have h412p : ¬ ((((List.length L) : Nat) : Int) = (((max 2 (List.length L)) : Nat) : Int)) := p_ne h412
                        refine GoH.takeV 5 (.bool ((((List.length L) : Nat) : Int) == (((max 2 (List.length L)) : Nat) : Int))) (.bool false) (some 86) (fun W_ => by kernel_rfl) (congrArg Value.bool h412) hS411 ?_
                        refine GoH.skipF 6 (some 87) (by kernel_rfl) hS411 ?_
                        refine GoH.skipF 7 (some 88) (by kernel_rfl) hS411 ?_
                        refine GoH.skipF 8 (some 89) (by kernel_rfl) hS411 ?_
                        refine GoH.skipF 9 (some 90) (by kernel_rfl) hS411 ?_
                        refine GoH.skipF 10 (some 91) (by kernel_rfl) hS411 ?_
                        refine GoH.takeV 11 (.bool false) (.bool false) (some 92) (fun W_ => by kernel_rfl) rfl hS411 ?_
                        refine GoH.takeV 12 (.bool false) (.bool false) (some 2) (fun W_ => by kernel_rfl) rfl hS411 ?_
                        refine GoH.done [2] [(2, .bool false)] (by kernel_rfl) (by kernel_rfl) ?_
                        have hM422 : Mem [] w0 w408 [] := hM410.sub (cn (cn (List.Sublist.refl _)))
                        refine GoS.ret (fn := Try.f19) (v := (.bool false)) Try.func19 (by kernel_rfl) ?_
                        rw [hR]
                        have hall : rightL q.l = true := by rw [← tk_all (l := q.l) (i := i) (by omega)]; exact hRt
                        have hro := right_of hall
                        rw [← he] at hro
                        have hmx : ¬ L.length = max 2 L.length := fun z => h412p (congrArg Int.ofNat z)
                        exact ⟨ret_bool (by first | (rw [hro, node_join (by omega), (show decide (2 ≤ q.l.length) = false from decide_eq_false (by omega))]; rfl) | (rw [hro, node_not (by omega), (show decide (q.l.length = 1) = false from decide_eq_false (by omega))]; rfl) | (rw [hro, node_all (by omega), (show decide (q.l.length = 0) = false from decide_eq_false (by omega))]; rfl)), hM422.sub (List.nil_sublist _)⟩
                    ·
                      have h356p : ¬ (h.op = 8) := p_ne h356
                      refine GoS.run [1, 5, 6, 24, 77] [.n, .n, .n, .n, .n] _ [.code (csub (cd Try.f19) [1,1,1,1,0,1,0,1,1,1,1,1,1,1]), .inBlock 2, .code (csub (cd Try.f19) [1,1,1,1,1])] [(1, pq b), (5, pq b2), (6, .int .i64 0), (24, .int .i64 (h.op)), (77, .bool (h.op == 9))] w7 (by kernel_rfl) .nil ?_
                      refine GoS.cond (h.op == 9) [.code (csub (cd Try.f19) [1,1,1,1,0,1,0,1,1,1,1,1,1,1,0]), .inBlock 2, .code (csub (cd Try.f19) [1,1,1,1,1])] [.code (csub (cd Try.f19) [1,1,1,1,0,1,0,1,1,1,1,1,1,1,1]), .inBlock 2, .code (csub (cd Try.f19) [1,1,1,1,1])] (by kernel_rfl) (fun h360 => ?_) (fun h360 => ?_)
                      ·
                        have h360p : h.op = 9 := eq_of_beq h360
                        refine GoS.run [1, 5, 6] [.n, .n, .n] _ [.inBlock 2, .code (csub (cd Try.f19) [1,1,1,1,1])] [(1, pq b), (5, pq b2), (6, .int .i64 1)] w7 (by kernel_rfl) .nil ?_
                        refine GoS.run [1, 5, 6] [.n, .n] _ [.code (csub (cd Try.f19) [1,1,1,1,1,0]), .code (csub (cd Try.f19) [1,1,1,1,1,1])] [(1, pq b), (5, pq b2), (6, .int .i64 1)] w7 (by kernel_rfl) .nil ?_
                        obtain ⟨w423, hw424⟩ : ∃ w_, (w7).drewN 1 = w_ := ⟨_, rfl⟩
                        refine GoS.held (fun W_ => Mem [] w0 W_ [⟨25, 8, (obj b2), 1, [.int .i64 (h.op), .string (sb ([])), .string (sb ([])), .int .i64 0, .int .i64 0, .int .u64 0, .int .u64 0, v]⟩, ⟨25, 8, (obj b), 1, (qR h v)⟩]) [] 31 (by kernel_rfl) (by kernel_rfl) 13 (by kernel_rfl) ?_
                        rw [hw424]
                        have hM425 : Mem [] w0 w423 [⟨25, 8, (obj b2), 1, [.int .i64 (h.op), .string (sb ([])), .string (sb ([])), .int .i64 0, .int .i64 0, .int .u64 0, .int .u64 0, v]⟩, ⟨25, 8, (obj b), 1, (qR h v)⟩] := hw424 ▸ hM10.ext (Kept.drewN _ _ 1)
                        have hS426 : Mem [] w0 w423 [⟨25, 8, (obj b2), 1, [.int .i64 (h.op), .string (sb ([])), .string (sb ([])), .int .i64 0, .int .i64 0, .int .u64 0, .int .u64 0, v]⟩, ⟨25, 8, (obj b), 1, (qR h v)⟩] := hM425.sub (cc (cc (List.Sublist.refl _)))
                        refine GoH.takeV 0 (.pointer (some (⟨b, 7, none⟩))) (.pointer (some (⟨b, 7, none⟩))) (some 81) (fun W_ => by kernel_rfl) rfl hS426 ?_
                        refine GoH.takeF 1 (v) (fun W_ => (Instr.loadAt 23 (.pointer (some (⟨b, 7, none⟩)))).run Try.prog W_ = .ok (v) W_) (some 82) (fun W_ => by kernel_rfl) (fun W_ hW_ => c_load pE23 (hW_.rd 1 rfl) (cel_obj b 7) rfl) hS426 ?_
                        refine GoH.takeF 2 (.int .i64 (((List.length L) : Nat) : Int)) (fun W_ => (Builtin.len_ #[23] 3 #[v]).run Try.prog W_ = .ok (.int .i64 (((List.length L) : Nat) : Int)) W_) (some 83) (fun W_ => by kernel_rfl) (fun W_ hW_ => f_slen sT23 (hr.kept0 hW_.kept) 3 _) hS426 ?_
                        refine GoH.takeV 3 (.int .i64 1) (.int .i64 1) (some 84) (fun W_ => by kernel_rfl) rfl hS426 ?_
                        refine GoH.takeV 4 (.bool ((((List.length L) : Nat) : Int) == 1)) (.bool ((((List.length L) : Nat) : Int) == 1)) (some 85) (fun W_ => by kernel_rfl) rfl hS426 ?_
                        rcases Bool.eq_false_or_eq_true ((((List.length L) : Nat) : Int) == 1) with h427 | h427
                        ·
                          have h427p : (((List.length L) : Nat) : Int) = 1 := eq_of_beq h427
                          refine GoH.takeV 5 (.bool ((((List.length L) : Nat) : Int) == 1)) (.bool true) (some 86) (fun W_ => by kernel_rfl) (congrArg Value.bool h427) hS426 ?_
                          refine GoH.takeF 6 ((qA h v)) (fun W_ => (Instr.loadAt 25 (pq b)).run Try.prog W_ = .ok ((qA h v)) W_) (some 87) (fun W_ => by kernel_rfl) (fun W_ hW_ => c_loads (ys := (qR h v)) aE25 (hW_.rd 1 rfl) (cel_obj b 0) rfl (by intro j u hj; match j, hj with | 0, hj => exact hj | 1, hj => exact hj | 2, hj => exact hj | 3, hj => exact hj | 4, hj => exact hj | 5, hj => exact hj | 6, hj => exact hj | 7, hj => exact hj | n + 8, hj => cases hj)) hS426 ?_
                          refine GoH.takeF 8 (.agg #[.int .i64 (h.op), .string (sb ([])), .string (sb ([])), .int .i64 0, .int .i64 0, .int .u64 0, .int .u64 0, v]) (fun W_ => (Instr.loadAt 25 (pq b2)).run Try.prog W_ = .ok (.agg #[.int .i64 (h.op), .string (sb ([])), .string (sb ([])), .int .i64 0, .int .i64 0, .int .u64 0, .int .u64 0, v]) W_) (some 89) (fun W_ => by kernel_rfl) (fun W_ hW_ => c_loads (ys := [.int .i64 (h.op), .string (sb ([])), .string (sb ([])), .int .i64 0, .int .i64 0, .int .u64 0, .int .u64 0, v]) aE25 (hW_.rd 0 rfl) (cel_obj b2 0) rfl (by intro j u hj; match j, hj with | 0, hj => exact hj | 1, hj => exact hj | 2, hj => exact hj | 3, hj => exact hj | 4, hj => exact hj | 5, hj => exact hj | 6, hj => exact hj | 7, hj => exact hj | n + 8, hj => cases hj)) hS426 ?_
                          refine GoH.callF 7 21 #[(qA h v)] (some 88) (by kernel_rfl) (flat_c (w := w423) h v) ?_
                          rintro _ w428 ⟨rfl, m429⟩
                          have hM430 : Mem [] w0 w428 [⟨25, 8, (obj b2), 1, [.int .i64 (h.op), .string (sb ([])), .string (sb ([])), .int .i64 0, .int .i64 0, .int .u64 0, .int .u64 0, v]⟩, ⟨25, 8, (obj b), 1, (qR h v)⟩] := Mem.join (R := []) hM425 m429
                          have hS431 : Mem [] w0 w428 [⟨25, 8, (obj b2), 1, [.int .i64 (h.op), .string (sb ([])), .string (sb ([])), .int .i64 0, .int .i64 0, .int .u64 0, .int .u64 0, v]⟩, ⟨25, 8, (obj b), 1, (qR h v)⟩] := hM430.sub (cc (cc (List.Sublist.refl _)))
                          refine ⟨(qH h), rfl, .inr hS431, ?_⟩
                          refine GoH.callF 9 21 #[.agg #[.int .i64 (h.op), .string (sb ([])), .string (sb ([])), .int .i64 0, .int .i64 0, .int .u64 0, .int .u64 0, v]] (some 90) (by kernel_rfl) (flat_c (w := w428) (Hd.mk (h.op) ([]) ([]) 0 0 0 0) v) ?_
                          rintro _ w432 ⟨rfl, m433⟩
                          have hM434 : Mem [] w0 w432 [⟨25, 8, (obj b2), 1, [.int .i64 (h.op), .string (sb ([])), .string (sb ([])), .int .i64 0, .int .i64 0, .int .u64 0, .int .u64 0, v]⟩, ⟨25, 8, (obj b), 1, (qR h v)⟩] := Mem.join (R := []) hM430 m433
                          have hS435 : Mem [] w0 w432 [⟨25, 8, (obj b2), 1, [.int .i64 (h.op), .string (sb ([])), .string (sb ([])), .int .i64 0, .int .i64 0, .int .u64 0, .int .u64 0, v]⟩, ⟨25, 8, (obj b), 1, (qR h v)⟩] := hM434.sub (cc (cc (List.Sublist.refl _)))
                          refine ⟨.agg #[.int .i64 (h.op), .string (sb ([])), .string (sb ([])), .int .i64 0, .int .i64 0, .int .u64 0, .int .u64 0], rfl, .inr hS435, ?_⟩
                          refine GoH.takeF 10 (.bool (decide (h.field = []) && nothP h false false false)) (fun W_ => Try.prog.eqGuardType Try.prog.depth 38 = false ∧ (binOp .eql 38 ((qH h)) (.agg #[.int .i64 (h.op), .string (sb ([])), .string (sb ([])), .int .i64 0, .int .i64 0, .int .u64 0, .int .u64 0])).run Try.prog W_ = .ok (.bool (decide (h.field = []) && nothP h false false false)) W_) (some 91) (fun W_ => by kernel_rfl) (fun W_ hW_ => f_ageq eT38 (xs := [.int .i64 (h.op), .string (sb (h.field)), .string (sb (h.text)), .int .i64 (h.edits), .int .i64 (h.exact), .int .u64 (h.lo), .int .u64 (h.hi)]) (ys := [.int .i64 (h.op), .string (sb ([])), .string (sb ([])), .int .i64 0, .int .i64 0, .int .u64 0, .int .u64 0]) (r := ((h.op == h.op) && (((sb (h.field)).toList == (sb ([])).toList) && (((sb (h.text)).toList == (sb ([])).toList) && ((h.edits == 0) && ((h.exact == 0) && ((h.lo == 0) && ((h.hi == 0) && true)))))))) (by kernel_rfl) (noth_b h)) hS435 ?_
                          refine GoH.takeV 11 (.bool (decide (h.field = []) && nothP h false false false)) (.bool (decide (h.field = []) && nothP h false false false)) (some 92) (fun W_ => by kernel_rfl) rfl hS435 ?_
                          refine GoH.takeV 12 (.bool (decide (h.field = []) && nothP h false false false)) (.bool (decide (h.field = []) && nothP h false false false)) (some 2) (fun W_ => by kernel_rfl) rfl hS435 ?_
                          refine GoH.done [2] [(2, .bool (decide (h.field = []) && nothP h false false false))] (by kernel_rfl) (by kernel_rfl) ?_
                          have hM436 : Mem [] w0 w432 [] := hM434.sub (cn (cn (List.Sublist.refl _)))
                          refine GoS.ret (fn := Try.f19) (v := (.bool (decide (h.field = []) && nothP h false false false))) Try.func19 (by kernel_rfl) ?_
                          rw [hR]
                          have hall : rightL q.l = true := by rw [← tk_all (l := q.l) (i := i) (by omega)]; exact hRt
                          have hro := right_of hall
                          rw [← he] at hro
                          exact ⟨ret_bool (by first | (rw [hro, node_join (by omega), (show decide (2 ≤ q.l.length) = true from decide_eq_true (by omega))]; rfl) | (rw [hro, node_not (by omega), (show decide (q.l.length = 1) = true from decide_eq_true (by omega))]; rfl) | (rw [hro, node_all (by omega), (show decide (q.l.length = 0) = true from decide_eq_true (by omega))]; rfl)), hM436.sub (List.nil_sublist _)⟩
                        ·
                          have h427p : ¬ ((((List.length L) : Nat) : Int) = 1) := p_ne h427
                          refine GoH.takeV 5 (.bool ((((List.length L) : Nat) : Int) == 1)) (.bool false) (some 86) (fun W_ => by kernel_rfl) (congrArg Value.bool h427) hS426 ?_
                          refine GoH.skipF 6 (some 87) (by kernel_rfl) hS426 ?_
                          refine GoH.skipF 7 (some 88) (by kernel_rfl) hS426 ?_
                          refine GoH.skipF 8 (some 89) (by kernel_rfl) hS426 ?_
                          refine GoH.skipF 9 (some 90) (by kernel_rfl) hS426 ?_
                          refine GoH.skipF 10 (some 91) (by kernel_rfl) hS426 ?_
                          refine GoH.takeV 11 (.bool false) (.bool false) (some 92) (fun W_ => by kernel_rfl) rfl hS426 ?_
                          refine GoH.takeV 12 (.bool false) (.bool false) (some 2) (fun W_ => by kernel_rfl) rfl hS426 ?_
                          refine GoH.done [2] [(2, .bool false)] (by kernel_rfl) (by kernel_rfl) ?_
                          have hM437 : Mem [] w0 w423 [] := hM425.sub (cn (cn (List.Sublist.refl _)))
                          refine GoS.ret (fn := Try.f19) (v := (.bool false)) Try.func19 (by kernel_rfl) ?_
                          rw [hR]
                          have hall : rightL q.l = true := by rw [← tk_all (l := q.l) (i := i) (by omega)]; exact hRt
                          have hro := right_of hall
                          rw [← he] at hro
                          exact ⟨ret_bool (by first | (rw [hro, node_join (by omega), (show decide (2 ≤ q.l.length) = false from decide_eq_false (by omega))]; rfl) | (rw [hro, node_not (by omega), (show decide (q.l.length = 1) = false from decide_eq_false (by omega))]; rfl) | (rw [hro, node_all (by omega), (show decide (q.l.length = 0) = false from decide_eq_false (by omega))]; rfl)), hM437.sub (List.nil_sublist _)⟩
                      ·
                        have h360p : ¬ (h.op = 9) := p_ne h360
                        refine GoS.run [1, 5, 6, 79] [.n, .n, .n, .n, .n] _ [.code (csub (cd Try.f19) [1,1,1,1,0,1,0,1,1,1,1,1,1,1,1,1]), .inBlock 2, .code (csub (cd Try.f19) [1,1,1,1,1])] [(1, pq b), (5, pq b2), (6, .int .i64 0), (79, .bool (h.op == 10))] w7 (by kernel_rfl) .nil ?_
                        refine GoS.cond (h.op == 10) [.code (csub (cd Try.f19) [1,1,1,1,0,1,0,1,1,1,1,1,1,1,1,1,0]), .inBlock 2, .code (csub (cd Try.f19) [1,1,1,1,1])] [.code (csub (cd Try.f19) [1,1,1,1,0,1,0,1,1,1,1,1,1,1,1,1,1]), .inBlock 2, .code (csub (cd Try.f19) [1,1,1,1,1])] (by kernel_rfl) (fun h361 => ?_) (fun h361 => ?_)
                        ·
                          have h361p : h.op = 10 := eq_of_beq h361
                          refine GoS.run [1, 5, 6] [.n] _ [.inBlock 2, .code (csub (cd Try.f19) [1,1,1,1,1])] [(1, pq b), (5, pq b2), (6, .int .i64 0)] w7 (by kernel_rfl) .nil ?_
                          refine GoS.run [1, 5, 6] [.n, .n] _ [.code (csub (cd Try.f19) [1,1,1,1,1,0]), .code (csub (cd Try.f19) [1,1,1,1,1,1])] [(1, pq b), (5, pq b2), (6, .int .i64 0)] w7 (by kernel_rfl) .nil ?_
                          obtain ⟨w438, hw439⟩ : ∃ w_, (w7).drewN 1 = w_ := ⟨_, rfl⟩
                          refine GoS.held (fun W_ => Mem [] w0 W_ [⟨25, 8, (obj b2), 1, [.int .i64 (h.op), .string (sb ([])), .string (sb ([])), .int .i64 0, .int .i64 0, .int .u64 0, .int .u64 0, v]⟩, ⟨25, 8, (obj b), 1, (qR h v)⟩]) [] 31 (by kernel_rfl) (by kernel_rfl) 13 (by kernel_rfl) ?_
                          rw [hw439]
                          have hM440 : Mem [] w0 w438 [⟨25, 8, (obj b2), 1, [.int .i64 (h.op), .string (sb ([])), .string (sb ([])), .int .i64 0, .int .i64 0, .int .u64 0, .int .u64 0, v]⟩, ⟨25, 8, (obj b), 1, (qR h v)⟩] := hw439 ▸ hM10.ext (Kept.drewN _ _ 1)
                          have hS441 : Mem [] w0 w438 [⟨25, 8, (obj b2), 1, [.int .i64 (h.op), .string (sb ([])), .string (sb ([])), .int .i64 0, .int .i64 0, .int .u64 0, .int .u64 0, v]⟩, ⟨25, 8, (obj b), 1, (qR h v)⟩] := hM440.sub (cc (cc (List.Sublist.refl _)))
                          refine GoH.takeV 0 (.pointer (some (⟨b, 7, none⟩))) (.pointer (some (⟨b, 7, none⟩))) (some 81) (fun W_ => by kernel_rfl) rfl hS441 ?_
                          refine GoH.takeF 1 (v) (fun W_ => (Instr.loadAt 23 (.pointer (some (⟨b, 7, none⟩)))).run Try.prog W_ = .ok (v) W_) (some 82) (fun W_ => by kernel_rfl) (fun W_ hW_ => c_load pE23 (hW_.rd 1 rfl) (cel_obj b 7) rfl) hS441 ?_
                          refine GoH.takeF 2 (.int .i64 (((List.length L) : Nat) : Int)) (fun W_ => (Builtin.len_ #[23] 3 #[v]).run Try.prog W_ = .ok (.int .i64 (((List.length L) : Nat) : Int)) W_) (some 83) (fun W_ => by kernel_rfl) (fun W_ hW_ => f_slen sT23 (hr.kept0 hW_.kept) 3 _) hS441 ?_
                          refine GoH.takeV 3 (.int .i64 0) (.int .i64 0) (some 84) (fun W_ => by kernel_rfl) rfl hS441 ?_
                          refine GoH.takeV 4 (.bool ((((List.length L) : Nat) : Int) == 0)) (.bool ((((List.length L) : Nat) : Int) == 0)) (some 85) (fun W_ => by kernel_rfl) rfl hS441 ?_
                          rcases Bool.eq_false_or_eq_true ((((List.length L) : Nat) : Int) == 0) with h442 | h442
                          ·
                            have h442p : (((List.length L) : Nat) : Int) = 0 := eq_of_beq h442
                            refine GoH.takeV 5 (.bool ((((List.length L) : Nat) : Int) == 0)) (.bool true) (some 86) (fun W_ => by kernel_rfl) (congrArg Value.bool h442) hS441 ?_
                            refine GoH.takeF 6 ((qA h v)) (fun W_ => (Instr.loadAt 25 (pq b)).run Try.prog W_ = .ok ((qA h v)) W_) (some 87) (fun W_ => by kernel_rfl) (fun W_ hW_ => c_loads (ys := (qR h v)) aE25 (hW_.rd 1 rfl) (cel_obj b 0) rfl (by intro j u hj; match j, hj with | 0, hj => exact hj | 1, hj => exact hj | 2, hj => exact hj | 3, hj => exact hj | 4, hj => exact hj | 5, hj => exact hj | 6, hj => exact hj | 7, hj => exact hj | n + 8, hj => cases hj)) hS441 ?_
                            refine GoH.takeF 8 (.agg #[.int .i64 (h.op), .string (sb ([])), .string (sb ([])), .int .i64 0, .int .i64 0, .int .u64 0, .int .u64 0, v]) (fun W_ => (Instr.loadAt 25 (pq b2)).run Try.prog W_ = .ok (.agg #[.int .i64 (h.op), .string (sb ([])), .string (sb ([])), .int .i64 0, .int .i64 0, .int .u64 0, .int .u64 0, v]) W_) (some 89) (fun W_ => by kernel_rfl) (fun W_ hW_ => c_loads (ys := [.int .i64 (h.op), .string (sb ([])), .string (sb ([])), .int .i64 0, .int .i64 0, .int .u64 0, .int .u64 0, v]) aE25 (hW_.rd 0 rfl) (cel_obj b2 0) rfl (by intro j u hj; match j, hj with | 0, hj => exact hj | 1, hj => exact hj | 2, hj => exact hj | 3, hj => exact hj | 4, hj => exact hj | 5, hj => exact hj | 6, hj => exact hj | 7, hj => exact hj | n + 8, hj => cases hj)) hS441 ?_
                            refine GoH.callF 7 21 #[(qA h v)] (some 88) (by kernel_rfl) (flat_c (w := w438) h v) ?_
                            rintro _ w443 ⟨rfl, m444⟩
                            have hM445 : Mem [] w0 w443 [⟨25, 8, (obj b2), 1, [.int .i64 (h.op), .string (sb ([])), .string (sb ([])), .int .i64 0, .int .i64 0, .int .u64 0, .int .u64 0, v]⟩, ⟨25, 8, (obj b), 1, (qR h v)⟩] := Mem.join (R := []) hM440 m444
                            have hS446 : Mem [] w0 w443 [⟨25, 8, (obj b2), 1, [.int .i64 (h.op), .string (sb ([])), .string (sb ([])), .int .i64 0, .int .i64 0, .int .u64 0, .int .u64 0, v]⟩, ⟨25, 8, (obj b), 1, (qR h v)⟩] := hM445.sub (cc (cc (List.Sublist.refl _)))
                            refine ⟨(qH h), rfl, .inr hS446, ?_⟩
                            refine GoH.callF 9 21 #[.agg #[.int .i64 (h.op), .string (sb ([])), .string (sb ([])), .int .i64 0, .int .i64 0, .int .u64 0, .int .u64 0, v]] (some 90) (by kernel_rfl) (flat_c (w := w443) (Hd.mk (h.op) ([]) ([]) 0 0 0 0) v) ?_
                            rintro _ w447 ⟨rfl, m448⟩
                            have hM449 : Mem [] w0 w447 [⟨25, 8, (obj b2), 1, [.int .i64 (h.op), .string (sb ([])), .string (sb ([])), .int .i64 0, .int .i64 0, .int .u64 0, .int .u64 0, v]⟩, ⟨25, 8, (obj b), 1, (qR h v)⟩] := Mem.join (R := []) hM445 m448
                            have hS450 : Mem [] w0 w447 [⟨25, 8, (obj b2), 1, [.int .i64 (h.op), .string (sb ([])), .string (sb ([])), .int .i64 0, .int .i64 0, .int .u64 0, .int .u64 0, v]⟩, ⟨25, 8, (obj b), 1, (qR h v)⟩] := hM449.sub (cc (cc (List.Sublist.refl _)))
                            refine ⟨.agg #[.int .i64 (h.op), .string (sb ([])), .string (sb ([])), .int .i64 0, .int .i64 0, .int .u64 0, .int .u64 0], rfl, .inr hS450, ?_⟩
                            refine GoH.takeF 10 (.bool (decide (h.field = []) && nothP h false false false)) (fun W_ => Try.prog.eqGuardType Try.prog.depth 38 = false ∧ (binOp .eql 38 ((qH h)) (.agg #[.int .i64 (h.op), .string (sb ([])), .string (sb ([])), .int .i64 0, .int .i64 0, .int .u64 0, .int .u64 0])).run Try.prog W_ = .ok (.bool (decide (h.field = []) && nothP h false false false)) W_) (some 91) (fun W_ => by kernel_rfl) (fun W_ hW_ => f_ageq eT38 (xs := [.int .i64 (h.op), .string (sb (h.field)), .string (sb (h.text)), .int .i64 (h.edits), .int .i64 (h.exact), .int .u64 (h.lo), .int .u64 (h.hi)]) (ys := [.int .i64 (h.op), .string (sb ([])), .string (sb ([])), .int .i64 0, .int .i64 0, .int .u64 0, .int .u64 0]) (r := ((h.op == h.op) && (((sb (h.field)).toList == (sb ([])).toList) && (((sb (h.text)).toList == (sb ([])).toList) && ((h.edits == 0) && ((h.exact == 0) && ((h.lo == 0) && ((h.hi == 0) && true)))))))) (by kernel_rfl) (noth_b h)) hS450 ?_
                            refine GoH.takeV 11 (.bool (decide (h.field = []) && nothP h false false false)) (.bool (decide (h.field = []) && nothP h false false false)) (some 92) (fun W_ => by kernel_rfl) rfl hS450 ?_
                            refine GoH.takeV 12 (.bool (decide (h.field = []) && nothP h false false false)) (.bool (decide (h.field = []) && nothP h false false false)) (some 2) (fun W_ => by kernel_rfl) rfl hS450 ?_
                            refine GoH.done [2] [(2, .bool (decide (h.field = []) && nothP h false false false))] (by kernel_rfl) (by kernel_rfl) ?_
                            have hM451 : Mem [] w0 w447 [] := hM449.sub (cn (cn (List.Sublist.refl _)))
                            refine GoS.ret (fn := Try.f19) (v := (.bool (decide (h.field = []) && nothP h false false false))) Try.func19 (by kernel_rfl) ?_
                            rw [hR]
                            have hall : rightL q.l = true := by rw [← tk_all (l := q.l) (i := i) (by omega)]; exact hRt
                            have hro := right_of hall
                            rw [← he] at hro
                            exact ⟨ret_bool (by first | (rw [hro, node_join (by omega), (show decide (2 ≤ q.l.length) = true from decide_eq_true (by omega))]; rfl) | (rw [hro, node_not (by omega), (show decide (q.l.length = 1) = true from decide_eq_true (by omega))]; rfl) | (rw [hro, node_all (by omega), (show decide (q.l.length = 0) = true from decide_eq_true (by omega))]; rfl)), hM451.sub (List.nil_sublist _)⟩
                          ·
                            have h442p : ¬ ((((List.length L) : Nat) : Int) = 0) := p_ne h442
                            refine GoH.takeV 5 (.bool ((((List.length L) : Nat) : Int) == 0)) (.bool false) (some 86) (fun W_ => by kernel_rfl) (congrArg Value.bool h442) hS441 ?_
                            refine GoH.skipF 6 (some 87) (by kernel_rfl) hS441 ?_
                            refine GoH.skipF 7 (some 88) (by kernel_rfl) hS441 ?_
                            refine GoH.skipF 8 (some 89) (by kernel_rfl) hS441 ?_
                            refine GoH.skipF 9 (some 90) (by kernel_rfl) hS441 ?_
                            refine GoH.skipF 10 (some 91) (by kernel_rfl) hS441 ?_
                            refine GoH.takeV 11 (.bool false) (.bool false) (some 92) (fun W_ => by kernel_rfl) rfl hS441 ?_
                            refine GoH.takeV 12 (.bool false) (.bool false) (some 2) (fun W_ => by kernel_rfl) rfl hS441 ?_
                            refine GoH.done [2] [(2, .bool false)] (by kernel_rfl) (by kernel_rfl) ?_
                            have hM452 : Mem [] w0 w438 [] := hM440.sub (cn (cn (List.Sublist.refl _)))
                            refine GoS.ret (fn := Try.f19) (v := (.bool false)) Try.func19 (by kernel_rfl) ?_
                            rw [hR]
                            have hall : rightL q.l = true := by rw [← tk_all (l := q.l) (i := i) (by omega)]; exact hRt
                            have hro := right_of hall
                            rw [← he] at hro
                            exact ⟨ret_bool (by first | (rw [hro, node_join (by omega), (show decide (2 ≤ q.l.length) = false from decide_eq_false (by omega))]; rfl) | (rw [hro, node_not (by omega), (show decide (q.l.length = 1) = false from decide_eq_false (by omega))]; rfl) | (rw [hro, node_all (by omega), (show decide (q.l.length = 0) = false from decide_eq_false (by omega))]; rfl)), hM452.sub (List.nil_sublist _)⟩
                        ·
                          have h361p : ¬ (h.op = 10) := p_ne h361
                          have hM362 : Mem [] w0 w7 [] := hM10.sub (cn (cn (List.Sublist.refl _)))
                          refine GoS.run [2] [.n, .n, .n, .n] _ [.code (csub (cd Try.f19) [1,1,1,1,0,1,0,1,1,1,1,1,1,1,1,1,1,1]), .inBlock 2, .code (csub (cd Try.f19) [1,1,1,1,1])] [(2, .bool false)] w7 (by kernel_rfl) .nil ?_
                          refine GoS.ret (fn := Try.f19) (v := (.bool false)) Try.func19 (by kernel_rfl) ?_
                          rw [hR]
                          have hall : rightL q.l = true := by rw [← tk_all (l := q.l) (i := i) (by omega)]; exact hRt
                          have hro := right_of hall
                          rw [← he] at hro
                          exact ⟨ret_bool (by rw [hro, node_else (by omega)]), hM362.sub (List.nil_sublist _)⟩

set_option maxHeartbeats 400000 in
theorem right_s (N : Nat) (ih : ∀ (q : Q), bulkQ q < N → ∀ {w : World} (h : Hd) (he : h = q.h) (v : Value) (hq : RdQ w q v) (hb : bulkQ q ≤ 1048576) , Calls Try.prog 19 #[(qA h v)] w (fun e w' => e = .returned (.bool (rightQ q)) ∧ Mem [] w w' [])) {w : World} (q : Q) (h : Hd) (he : h = q.h) (v : Value) (hq : RdQ w q v) (hb : bulkQ q ≤ 1048576) (hN : bulkQ q = N) :
    Calls Try.prog 19 #[(qA h v)] w (fun e w' => e = .returned (.bool (rightQ q)) ∧ Mem [] w w' []) := by
  obtain ⟨L, hr, hl, hh, hs⟩ := hq.inv
  have hbl : bulkL q.l + q.h.field.length + q.h.text.length + 1 = bulkQ q := by cases q; rw [bulkQ_mk]; rfl
  have hln := bulk_len q.l
  obtain ⟨R, hR⟩ : ∃ R : Ending → World → Prop, R = (fun e w' => e = .returned (.bool (rightQ q)) ∧ Mem [] w w' []) := ⟨_, rfl⟩
  rw [← hR]
  refine GoS.enter (n := 93) Try.func19 (by kernel_rfl) rfl [(0, (qA h v))] (by kernel_rfl) (by kernel_rfl) ?_
  have hM0 := Mem.start w
  obtain ⟨b1, w2, hr3, hM4⟩ := m_box (T := 25) (k := 8) (u := (qA h v)) rfl rfl hM0
  have hM5 : Mem [] w w2 [⟨25, 8, (obj b1), 1, (qR h v)⟩] := hM4
  have o6 : (Instr.box 25 ((qA h v))).run Try.prog w = .ok (pq b1) w2 := hr3
  have o7 : (Instr.loadAt 23 (.pointer (some (⟨b1, 7, none⟩)))).run Try.prog w2 = .ok (v) w2 := c_load pE23 (hM5.rd 0 rfl) (cel_obj b1 7) rfl
  have o8 : (Builtin.len_ #[23] 3 #[v]).run Try.prog w2 = .ok (.int .i64 (((List.length L) : Nat) : Int)) w2 := f_slen sT23 (hr.kept0 hM5.kept) 3 _
  refine GoS.run [1, 8, 9, 10] [.n, .n, .u (pq b1) (w2), .n, .n, .n, .n, .n, .n, .h (v), .h (.int .i64 (((List.length L) : Nat) : Int)), .n, .n, .n, .n] _ [.code (csub (cd Try.f19) [1,0,1,0,0]), .inLoop (csub (cd Try.f19) [1,0,1,0,0]), .inBlock 0, .code (csub (cd Try.f19) [1,1])] [(1, pq b1), (8, v), (9, .int .i64 (((List.length L) : Nat) : Int)), (10, .int .i64 0)] w2 (by kernel_rfl) (.cons o6 (.cons o7 (.cons o8 .nil))) ?_
  exact right_L N ih q h he v hq hb L hr hl hh hs b1 hN R hR (L.length + 1) 0 w2 (Nat.zero_le _) (by rw [List.take_zero, rightL]) (hM5.sub (cc (List.nil_sublist _))) (by omega)

theorem right_c_n : ∀ (N : Nat), ∀ (q : Q), bulkQ q ≤ N → ∀ {w : World} (h : Hd) (he : h = q.h) (v : Value) (hq : RdQ w q v) (hb : bulkQ q ≤ 1048576) , Calls Try.prog 19 #[(qA h v)] w (fun e w' => e = .returned (.bool (rightQ q)) ∧ Mem [] w w' []) := by
  intro N
  induction N with
  | zero => intro q hn; have := bulk_pos q; omega
  | succ N ihn => intro q hn w h he v hq hb; exact right_s (bulkQ q) (fun c hc => ihn c (by omega)) q h he v hq hb rfl

theorem right_c {w : World} (q : Q) (h : Hd) (he : h = q.h) (v : Value) (hq : RdQ w q v) (hb : bulkQ q ≤ 1048576)  :
    Calls Try.prog 19 #[(qA h v)] w (fun e w' => e = .returned (.bool (rightQ q)) ∧ Mem [] w w' []) := right_c_n (bulkQ q) q (Nat.le_refl _) h he v hq hb


end Go.Proofs.Ytnhplkkbpmijdaa
