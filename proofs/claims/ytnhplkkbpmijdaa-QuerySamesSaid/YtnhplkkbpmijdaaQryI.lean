/-
  The walk of right of the reference.
-/
import Derived.Test.YtnhplkkbpmijdaaQryH
namespace Go.Proofs.Ytnhplkkbpmijdaa
open Go Go.Gw Go.UtfP Go.TokP Go.QryP Go.RowKit
set_option linter.unusedVariables false
set_option linter.unusedSimpArgs false


set_option maxHeartbeats 1000000 in
theorem rright_L (N : Nat) (ih : ∀ (q : Q), bulkQ q < N → ∀ {w : World} (h : Hd) (he : h = q.h) (v : Value) (hq : RdQ w q v) (hb : bulkQ q ≤ 1048576) , Calls Try.prog 20 #[(qA h v)] w (fun e w' => e = .returned (.bool (rightQ q)) ∧ Mem [] w w' [])) {w0 : World} (q : Q) (h : Hd) (he : h = q.h) (v : Value) (hq : RdQ w0 q v) (hb : bulkQ q ≤ 1048576) (L : List QN) (hr : Rd w0 8 v L.length (recs qnC L)) (hl : L.length = q.l.length) (hh : ∀ j, j < q.l.length → (L.getD j qz).h = (q.l.getD j q0).h) (hs : ∀ j, j < q.l.length → RdQ w0 (q.l.getD j q0) (L.getD j qz).parts) (b : Nat) (hN : bulkQ q = N) (R : Ending → World → Prop) (hR : R = (fun e w' => e = .returned (.bool (rightQ q)) ∧ Mem [] w0 w' [])) : ∀ (M_ : Nat) (i : Nat) (w : World) (hi : i ≤ L.length) (hRt : rightL (q.l.take i) = true) (hM : Mem [] w0 w [⟨25, 8, (obj b), 1, (qR h v)⟩]) (hN : L.length - i < M_), GoS Try.prog 20 R 20 [.code (csub (cd Try.f20) [1,0,1,0,0]), .inLoop (csub (cd Try.f20) [1,0,1,0,0]), .inBlock 0, .code (csub (cd Try.f20) [1,1])] [(1, pq b), (3, .int .i64 ((i : Nat) : Int))] w := by
  intro M_
  induction M_ with
  | zero => intro i w hi hRt hM hN; exact absurd hN (Nat.not_lt_zero _)
  | succ M_ ih_ =>
    intro i w hi hRt hM hN
    have hbl : bulkL q.l + q.h.field.length + q.h.text.length + 1 = bulkQ q := by cases q; rw [bulkQ_mk]; rfl
    have hln := bulk_len q.l
    have o1 : (Instr.loadAt 23 (.pointer (some (⟨b, 7, none⟩)))).run Try.prog w = .ok (v) w := c_load pE23 (hM.rd 0 rfl) (cel_obj b 7) rfl
    have o2 : (Builtin.len_ #[23] 3 #[v]).run Try.prog w = .ok (.int .i64 (((List.length L) : Nat) : Int)) w := f_slen sT23 (hr.kept0 hM.kept) 3 _
    refine GoS.run [1, 3, 8] [.n, .n, .n, .n, .n, .h (v), .h (.int .i64 (((List.length L) : Nat) : Int)), .n, .n] _ [.code (csub (cd Try.f20) [1,0,1,0,0,0,1]), .code (csub (cd Try.f20) [1,0,1,0,0,1]), .inLoop (csub (cd Try.f20) [1,0,1,0,0]), .inBlock 0, .code (csub (cd Try.f20) [1,1])] [(1, pq b), (3, .int .i64 ((i : Nat) : Int)), (8, .bool (decide (((i : Nat) : Int) < (((List.length L) : Nat) : Int))))] w (by kernel_rfl) (.cons o1 (.cons o2 .nil)) ?_
    refine GoS.cond (decide (((i : Nat) : Int) < (((List.length L) : Nat) : Int))) [.code (csub (cd Try.f20) [1,0,1,0,0,0,1,0]), .code (csub (cd Try.f20) [1,0,1,0,0,1]), .inLoop (csub (cd Try.f20) [1,0,1,0,0]), .inBlock 0, .code (csub (cd Try.f20) [1,1])] [.code (csub (cd Try.f20) [1,0,1,0,0,0,1,1]), .code (csub (cd Try.f20) [1,0,1,0,0,1]), .inLoop (csub (cd Try.f20) [1,0,1,0,0]), .inBlock 0, .code (csub (cd Try.f20) [1,1])] (by kernel_rfl) (fun h3 => ?_) (fun h3 => ?_)
    ·
      have h3p : ((i : Nat) : Int) < (((List.length L) : Nat) : Int) := of_decide_eq_true h3
      refine GoS.run [1, 3] [.n] _ [.code (csub (cd Try.f20) [1,0,1,0,0,1]), .inLoop (csub (cd Try.f20) [1,0,1,0,0]), .inBlock 0, .code (csub (cd Try.f20) [1,1])] [(1, pq b), (3, .int .i64 ((i : Nat) : Int))] w (by kernel_rfl) .nil ?_
      have o12 : (Instr.loadAt 23 (.pointer (some (⟨b, 7, none⟩)))).run Try.prog w = .ok (v) w := c_load pE23 (hM.rd 0 rfl) (cel_obj b 7) rfl
      obtain ⟨p9, hp10, hq11⟩ := rd_at (i := ((i : Nat) : Int)) sT23 (hr.kept0 hM.kept) i (by omega) (by first | omega | (dsimp only; omega))
      have o13 : (Instr.indexAt 23 (v) (.int .i64 ((i : Nat) : Int))).run Try.prog w = .ok (.pointer (some p9)) w := hq11 _ _
      have o14 : (Instr.loadAt 25 (.pointer (some p9))).run Try.prog w = .ok ((qA ((List.getD L i qz).h) ((List.getD L i qz).parts))) w := r_loads (f := qnC) (l := L) aE25 (hr.kept0 hM.kept) qnC_len hp10 (by first | omega | (dsimp only; omega)) qz
      refine GoS.run [1, 3, 15] [.n, .n, .n, .n, .n, .h (v), .n, .h (.pointer (some p9)), .h ((qA ((List.getD L i qz).h) ((List.getD L i qz).parts)))] _ [.inRegion (cops (csub (cd Try.f20) [1,0,1,0,0,1,0,0,0])) [5,6], .code (csub (cd Try.f20) [1,0,1,0,0,1,0,0,1]), .inBlock 1, .code (csub (cd Try.f20) [1,0,1,0,0,1,1]), .inLoop (csub (cd Try.f20) [1,0,1,0,0]), .inBlock 0, .code (csub (cd Try.f20) [1,1])] [(1, pq b), (3, .int .i64 ((i : Nat) : Int)), (15, (qA ((List.getD L i qz).h) ((List.getD L i qz).parts)))] w (by kernel_rfl) (.cons o12 (.cons o13 (.cons o14 .nil))) ?_
      have hkb18 := bulk_kid (l := q.l) (i := i) (by omega)
      have hks19 := size_le (List.getD q.l i q0)
      have hbs20 := bulk_step (l := q.l) (i := i) (by omega)
      refine GoS.call [1, 3] 20 #[(qA ((List.getD L i qz).h) ((List.getD L i qz).parts))] (some 16) [.inRegion (cops (csub (cd Try.f20) [1,0,1,0,0,1,0,0,0])) [6], .code (csub (cd Try.f20) [1,0,1,0,0,1,0,0,1]), .inBlock 1, .code (csub (cd Try.f20) [1,0,1,0,0,1,1]), .inLoop (csub (cd Try.f20) [1,0,1,0,0]), .inBlock 0, .code (csub (cd Try.f20) [1,1])] [(1, pq b), (3, .int .i64 ((i : Nat) : Int))] (by kernel_rfl) (ih (List.getD q.l i q0) (by omega) ((List.getD L i qz).h) (hh i (by omega)) ((List.getD L i qz).parts) ((hs i (by omega)).kept hM.kept) (by omega)) ?_
      rintro _ w15 ⟨rfl, m16⟩
      refine ⟨_, rfl, ?_⟩
      have hM17 : Mem [] w0 w15 [⟨25, 8, (obj b), 1, (qR h v)⟩] := Mem.join (R := []) hM m16
      refine GoS.run [1, 3, 17] [.n, .n] _ [.code (csub (cd Try.f20) [1,0,1,0,0,1,0,0,1]), .inBlock 1, .code (csub (cd Try.f20) [1,0,1,0,0,1,1]), .inLoop (csub (cd Try.f20) [1,0,1,0,0]), .inBlock 0, .code (csub (cd Try.f20) [1,1])] [(1, pq b), (3, .int .i64 ((i : Nat) : Int)), (17, .bool (!(rightQ (List.getD q.l i q0))))] w15 (by kernel_rfl) .nil ?_
      refine GoS.cond (!(rightQ (List.getD q.l i q0))) [.code (csub (cd Try.f20) [1,0,1,0,0,1,0,0,1,0]), .inBlock 1, .code (csub (cd Try.f20) [1,0,1,0,0,1,1]), .inLoop (csub (cd Try.f20) [1,0,1,0,0]), .inBlock 0, .code (csub (cd Try.f20) [1,1])] [.code (csub (cd Try.f20) [1,0,1,0,0,1,0,0,1,1]), .inBlock 1, .code (csub (cd Try.f20) [1,0,1,0,0,1,1]), .inLoop (csub (cd Try.f20) [1,0,1,0,0]), .inBlock 0, .code (csub (cd Try.f20) [1,1])] (by kernel_rfl) (fun h21 => ?_) (fun h21 => ?_)
      ·
        have hM22 : Mem [] w0 w15 [] := hM17.sub (cn (List.Sublist.refl _))
        refine GoS.run [2] [.n, .n, .n, .n] _ [.code (csub (cd Try.f20) [1,0,1,0,0,1,0,0,1,0,1]), .inBlock 1, .code (csub (cd Try.f20) [1,0,1,0,0,1,1]), .inLoop (csub (cd Try.f20) [1,0,1,0,0]), .inBlock 0, .code (csub (cd Try.f20) [1,1])] [(2, .bool false)] w15 (by kernel_rfl) .nil ?_
        refine GoS.ret (fn := Try.f20) (v := (.bool false)) Try.func20 (by kernel_rfl) ?_
        rw [hR]
        exact ⟨ret_bool (right_not (right_bad (show i < q.l.length by omega) (by have z := h21; simpa using z))).symm, hM22.sub (List.nil_sublist _)⟩
      ·
        refine GoS.run [1, 3] [.n] _ [.inBlock 1, .code (csub (cd Try.f20) [1,0,1,0,0,1,1]), .inLoop (csub (cd Try.f20) [1,0,1,0,0]), .inBlock 0, .code (csub (cd Try.f20) [1,1])] [(1, pq b), (3, .int .i64 ((i : Nat) : Int))] w15 (by kernel_rfl) .nil ?_
        have o23 : (binOp .add 3 (.int .i64 ((i : Nat) : Int)) (.int .i64 1)).run Try.prog w15 = .ok (.int .i64 (((i + 1) : Nat) : Int)) w15 := f_add (by rw [show ((i : Nat) : Int) + 1 = (((i + 1) : Nat) : Int) by omega]; exact IntWalk.i64_in _ (by omega))
        refine GoS.run [1, 3] [.n, .n, .n, .h (.int .i64 (((i + 1) : Nat) : Int)), .n, .n, .n] _ [.code (csub (cd Try.f20) [1,0,1,0,0]), .inLoop (csub (cd Try.f20) [1,0,1,0,0]), .inBlock 0, .code (csub (cd Try.f20) [1,1])] [(1, pq b), (3, .int .i64 (((i + 1) : Nat) : Int))] w15 (by kernel_rfl) (.cons o23 .nil) ?_
        exact ih_ (i + 1) _ (by omega) (by rw [right_step (show i < q.l.length by omega), hRt, Bool.true_and]; have z := h21; simpa using z) (hM17.sub (cc (List.nil_sublist _))) (by omega)
    ·
      have h3p : ¬ (((i : Nat) : Int) < (((List.length L) : Nat) : Int)) := of_decide_eq_false h3
      have o4 : (Instr.loadAt 25 (pq b)).run Try.prog w = .ok ((qA h v)) w := c_loads (ys := (qR h v)) aE25 (hM.rd 0 rfl) (cel_obj b 0) rfl (by intro j u hj; match j, hj with | 0, hj => exact hj | 1, hj => exact hj | 2, hj => exact hj | 3, hj => exact hj | 4, hj => exact hj | 5, hj => exact hj | 6, hj => exact hj | 7, hj => exact hj | n + 8, hj => cases hj)
      have hM5 : Mem [] w0 w [] := hM.sub (cn (List.Sublist.refl _))
      refine GoS.run [18] [.n, .n, .n, .h ((qA h v))] _ [.inRegion (cops (csub (cd Try.f20) [1,1,0])) [1,2], .code (csub (cd Try.f20) [1,1,1])] [(18, (qA h v))] w (by kernel_rfl) (.cons o4 .nil) ?_
      refine GoS.call [] 24 #[(qA h v)] (some 19) [.inRegion (cops (csub (cd Try.f20) [1,1,0])) [2], .code (csub (cd Try.f20) [1,1,1])] [] (by kernel_rfl) (rone_c q h he v (hq.kept hM5.kept) (by omega)) ?_
      rintro _ w6 ⟨rfl, m7⟩
      refine ⟨_, rfl, ?_⟩
      have hM8 : Mem [] w0 w6 [] := Mem.join (R := []) hM5 m7
      refine GoS.run [2] [.n, .n] _ [.code (csub (cd Try.f20) [1,1,1])] [(2, .bool (nodeP h q.l.length))] w6 (by kernel_rfl) .nil ?_
      refine GoS.ret (fn := Try.f20) (v := (.bool (nodeP h q.l.length))) Try.func20 (by kernel_rfl) ?_
      rw [hR]
      have hall : rightL q.l = true := by rw [← tk_all (l := q.l) (i := i) (by omega)]; exact hRt
      exact ⟨ret_bool (by rw [right_of hall, ← he]), hM8.sub (List.nil_sublist _)⟩

set_option maxHeartbeats 400000 in
theorem rright_s (N : Nat) (ih : ∀ (q : Q), bulkQ q < N → ∀ {w : World} (h : Hd) (he : h = q.h) (v : Value) (hq : RdQ w q v) (hb : bulkQ q ≤ 1048576) , Calls Try.prog 20 #[(qA h v)] w (fun e w' => e = .returned (.bool (rightQ q)) ∧ Mem [] w w' [])) {w : World} (q : Q) (h : Hd) (he : h = q.h) (v : Value) (hq : RdQ w q v) (hb : bulkQ q ≤ 1048576) (hN : bulkQ q = N) :
    Calls Try.prog 20 #[(qA h v)] w (fun e w' => e = .returned (.bool (rightQ q)) ∧ Mem [] w w' []) := by
  obtain ⟨L, hr, hl, hh, hs⟩ := hq.inv
  have hbl : bulkL q.l + q.h.field.length + q.h.text.length + 1 = bulkQ q := by cases q; rw [bulkQ_mk]; rfl
  have hln := bulk_len q.l
  obtain ⟨R, hR⟩ : ∃ R : Ending → World → Prop, R = (fun e w' => e = .returned (.bool (rightQ q)) ∧ Mem [] w w' []) := ⟨_, rfl⟩
  rw [← hR]
  refine GoS.enter (n := 20) Try.func20 (by kernel_rfl) rfl [(0, (qA h v))] (by kernel_rfl) (by kernel_rfl) ?_
  have hM0 := Mem.start w
  obtain ⟨b1, w2, hr3, hM4⟩ := m_box (T := 25) (k := 8) (u := (qA h v)) rfl rfl hM0
  have hM5 : Mem [] w w2 [⟨25, 8, (obj b1), 1, (qR h v)⟩] := hM4
  have o6 : (Instr.box 25 ((qA h v))).run Try.prog w = .ok (pq b1) w2 := hr3
  refine GoS.run [1, 3] [.n, .n, .u (pq b1) (w2), .n, .n, .n, .n, .n, .n, .n, .n, .n] _ [.code (csub (cd Try.f20) [1,0,1,0,0]), .inLoop (csub (cd Try.f20) [1,0,1,0,0]), .inBlock 0, .code (csub (cd Try.f20) [1,1])] [(1, pq b1), (3, .int .i64 0)] w2 (by kernel_rfl) (.cons o6 .nil) ?_
  exact rright_L N ih q h he v hq hb L hr hl hh hs b1 hN R hR (L.length + 1) 0 w2 (Nat.zero_le _) (by rw [List.take_zero, rightL]) (hM5.sub (cc (List.nil_sublist _))) (by omega)

theorem rright_c_n : ∀ (N : Nat), ∀ (q : Q), bulkQ q ≤ N → ∀ {w : World} (h : Hd) (he : h = q.h) (v : Value) (hq : RdQ w q v) (hb : bulkQ q ≤ 1048576) , Calls Try.prog 20 #[(qA h v)] w (fun e w' => e = .returned (.bool (rightQ q)) ∧ Mem [] w w' []) := by
  intro N
  induction N with
  | zero => intro q hn; have := bulk_pos q; omega
  | succ N ihn => intro q hn w h he v hq hb; exact rright_s (bulkQ q) (fun c hc => ihn c (by omega)) q h he v hq hb rfl

theorem rright_c {w : World} (q : Q) (h : Hd) (he : h = q.h) (v : Value) (hq : RdQ w q v) (hb : bulkQ q ≤ 1048576)  :
    Calls Try.prog 20 #[(qA h v)] w (fun e w' => e = .returned (.bool (rightQ q)) ∧ Mem [] w w' []) := rright_c_n (bulkQ q) q (Nat.le_refl _) h he v hq hb


end Go.Proofs.Ytnhplkkbpmijdaa
