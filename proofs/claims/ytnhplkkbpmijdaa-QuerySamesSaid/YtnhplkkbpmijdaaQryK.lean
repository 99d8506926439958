/-
  The walk of Copy.
-/
import Derived.Test.YtnhplkkbpmijdaaQryD
namespace Go.Proofs.Ytnhplkkbpmijdaa
open Go Go.Gw Go.UtfP Go.TokP Go.QryP Go.RowKit
set_option linter.unusedVariables false
set_option linter.unusedSimpArgs false


set_option maxHeartbeats 2000000 in
theorem copy_L (N : Nat) (ih : ∀ (q : Q), bulkQ q < N → ∀ {w : World} (h : Hd) (he : h = q.h) (v : Value) (hq : RdQ w q v) (hb : bulkQ q ≤ 1048576), Calls Try.prog 9 #[(qA h v)] w (fun e w' => ∃ (u : Value) (M : List QN) (T : List Row), e = .returned ((qA h u)) ∧ M.length = q.l.length ∧ (∀ j, j < q.l.length → (M.getD j qz).h = (q.l.getD j q0).h) ∧ (∀ j, j < q.l.length → QT T (q.l.getD j q0) (M.getD j qz).parts) ∧ Mem [] w w' (⟨25, 8, u, (List.length M), (recs qnC M)⟩ :: T))) {w0 : World} (q : Q) (h : Hd) (he : h = q.h) (v : Value) (hq : RdQ w0 q v) (hb : bulkQ q ≤ 1048576) (L : List QN) (hr : Rd w0 8 v L.length (recs qnC L)) (hl : L.length = q.l.length) (hh : ∀ j, j < q.l.length → (L.getD j qz).h = (q.l.getD j q0).h) (hs : ∀ j, j < q.l.length → RdQ w0 (q.l.getD j q0) (L.getD j qz).parts) (b c : Nat) (hN : bulkQ q = N) (R : Ending → World → Prop) (hR : R = (fun e w' => ∃ (u : Value) (M : List QN) (T : List Row), e = .returned ((qA h u)) ∧ M.length = q.l.length ∧ (∀ j, j < q.l.length → (M.getD j qz).h = (q.l.getD j q0).h) ∧ (∀ j, j < q.l.length → QT T (q.l.getD j q0) (M.getD j qz).parts) ∧ Mem [] w0 w' (⟨25, 8, u, (List.length M), (recs qnC M)⟩ :: T))) : ∀ (M_ : Nat) (i : Nat) (u : Value) (M : List QN) (T : List Row) (w : World) (hi : i ≤ L.length) (hMl : M.length = i) (hMh : ∀ j, j < i → (M.getD j qz).h = (q.l.getD j q0).h) (hMt : ∀ j, j < i → QT T (q.l.getD j q0) (M.getD j qz).parts) (hM : Mem [] w0 w (⟨25, 8, u, (List.length M), (recs qnC M)⟩ :: ⟨25, 8, (obj b), 1, (qR h v)⟩ :: ⟨25, 8, (obj c), 1, (qP 0 (.slice none 0 0))⟩ :: T)) (hN : L.length - i < M_), GoS Try.prog 9 R 24 [.code (csub (cd Try.f9) [1,1,0,1,0,0]), .inLoop (csub (cd Try.f9) [1,1,0,1,0,0]), .inBlock 0, .code (csub (cd Try.f9) [1,1,1])] [(1, pq b), (2, pq c), (3, u), (4, .int .i64 ((i : Nat) : Int))] w := by
  intro M_
  induction M_ with
  | zero => intro i u M T w hi hMl hMh hMt hM hN; exact absurd hN (Nat.not_lt_zero _)
  | succ M_ ih_ =>
    intro i u M T w hi hMl hMh hMt hM hN
    have hbl : bulkL q.l + q.h.field.length + q.h.text.length + 1 = bulkQ q := by cases q; rw [bulkQ_mk]; rfl
    have hln := bulk_len q.l
    have o1 : (Instr.loadAt 23 (.pointer (some (⟨b, 7, none⟩)))).run Try.prog w = .ok (v) w := c_load pE23 (hM.rd 1 rfl) (cel_obj b 7) rfl
    have o2 : (Builtin.len_ #[23] 3 #[v]).run Try.prog w = .ok (.int .i64 (((List.length L) : Nat) : Int)) w := f_slen sT23 (hr.kept0 hM.kept) 3 _
    refine GoS.run [1, 2, 3, 4, 9] [.n, .n, .n, .n, .n, .h (v), .h (.int .i64 (((List.length L) : Nat) : Int)), .n, .n] _ [.code (csub (cd Try.f9) [1,1,0,1,0,0,0,1]), .code (csub (cd Try.f9) [1,1,0,1,0,0,1]), .inLoop (csub (cd Try.f9) [1,1,0,1,0,0]), .inBlock 0, .code (csub (cd Try.f9) [1,1,1])] [(1, pq b), (2, pq c), (3, u), (4, .int .i64 ((i : Nat) : Int)), (9, .bool (decide (((i : Nat) : Int) < (((List.length L) : Nat) : Int))))] w (by kernel_rfl) (.cons o1 (.cons o2 .nil)) ?_
    refine GoS.cond (decide (((i : Nat) : Int) < (((List.length L) : Nat) : Int))) [.code (csub (cd Try.f9) [1,1,0,1,0,0,0,1,0]), .code (csub (cd Try.f9) [1,1,0,1,0,0,1]), .inLoop (csub (cd Try.f9) [1,1,0,1,0,0]), .inBlock 0, .code (csub (cd Try.f9) [1,1,1])] [.code (csub (cd Try.f9) [1,1,0,1,0,0,0,1,1]), .code (csub (cd Try.f9) [1,1,0,1,0,0,1]), .inLoop (csub (cd Try.f9) [1,1,0,1,0,0]), .inBlock 0, .code (csub (cd Try.f9) [1,1,1])] (by kernel_rfl) (fun h3 => ?_) (fun h3 => ?_)
    ·
      have h3p : ((i : Nat) : Int) < (((List.length L) : Nat) : Int) := of_decide_eq_true h3
      refine GoS.run [1, 2, 3, 4] [.n] _ [.code (csub (cd Try.f9) [1,1,0,1,0,0,1]), .inLoop (csub (cd Try.f9) [1,1,0,1,0,0]), .inBlock 0, .code (csub (cd Try.f9) [1,1,1])] [(1, pq b), (2, pq c), (3, u), (4, .int .i64 ((i : Nat) : Int))] w (by kernel_rfl) .nil ?_
      have o19 : (Instr.loadAt 23 (.pointer (some (⟨b, 7, none⟩)))).run Try.prog w = .ok (v) w := c_load pE23 (hM.rd 1 rfl) (cel_obj b 7) rfl
      obtain ⟨p16, hp17, hq18⟩ := rd_at (i := ((i : Nat) : Int)) sT23 (hr.kept0 hM.kept) i (by omega) (by first | omega | (dsimp only; omega))
      have o20 : (Instr.indexAt 23 (v) (.int .i64 ((i : Nat) : Int))).run Try.prog w = .ok (.pointer (some p16)) w := hq18 _ _
      have o21 : (Instr.loadAt 25 (.pointer (some p16))).run Try.prog w = .ok ((qA ((List.getD L i qz).h) ((List.getD L i qz).parts))) w := r_loads (f := qnC) (l := L) aE25 (hr.kept0 hM.kept) qnC_len hp17 (by first | omega | (dsimp only; omega)) qz
      refine GoS.run [1, 2, 4, 12, 17] [.n, .n, .n, .n, .n, .h (v), .n, .h (.pointer (some p16)), .h ((qA ((List.getD L i qz).h) ((List.getD L i qz).parts)))] _ [.inRegion (cops (csub (cd Try.f9) [1,1,0,1,0,0,1,0,0])) [6,7,8,9], .inBlock 1, .code (csub (cd Try.f9) [1,1,0,1,0,0,1,1]), .inLoop (csub (cd Try.f9) [1,1,0,1,0,0]), .inBlock 0, .code (csub (cd Try.f9) [1,1,1])] [(1, pq b), (2, pq c), (4, .int .i64 ((i : Nat) : Int)), (12, u), (17, (qA ((List.getD L i qz).h) ((List.getD L i qz).parts)))] w (by kernel_rfl) (.cons o19 (.cons o20 (.cons o21 .nil))) ?_
      have hkb34 := bulk_kid (l := q.l) (i := i) (by omega)
      have hks35 := size_le (List.getD q.l i q0)
      have hbs36 := bulk_step (l := q.l) (i := i) (by omega)
      refine GoS.call [1, 2, 4, 12] 9 #[(qA ((List.getD L i qz).h) ((List.getD L i qz).parts))] (some 18) [.inRegion (cops (csub (cd Try.f9) [1,1,0,1,0,0,1,0,0])) [7,8,9], .inBlock 1, .code (csub (cd Try.f9) [1,1,0,1,0,0,1,1]), .inLoop (csub (cd Try.f9) [1,1,0,1,0,0]), .inBlock 0, .code (csub (cd Try.f9) [1,1,1])] [(1, pq b), (2, pq c), (4, .int .i64 ((i : Nat) : Int)), (12, u)] (by kernel_rfl) (ih (List.getD q.l i q0) (by omega) ((List.getD L i qz).h) (hh i (by omega)) ((List.getD L i qz).parts) ((hs i (by omega)).kept hM.kept) (by omega)) ?_
      rintro _ w22 ⟨u23, M24, T25, rfl, h28, h29, h30, m27⟩
      refine ⟨_, rfl, ?_⟩
      obtain ⟨T26, hT32⟩ : ∃ T_, T_ = (⟨25, 8, u23, (List.length M24), (recs qnC M24)⟩ :: T25) := ⟨_, rfl⟩
      have hqt31 : QT T26 (List.getD q.l i q0) u23 := by rw [hT32]; exact QT.whole h28 h29 h30
      have hM33 : Mem [] w0 w22 (⟨25, 8, u, (List.length M), (recs qnC M)⟩ :: ⟨25, 8, (obj b), 1, (qR h v)⟩ :: ⟨25, 8, (obj c), 1, (qP 0 (.slice none 0 0))⟩ :: (T26 ++ T)) := by rw [hT32]; exact Mem.joinT (A := [⟨25, 8, u, (List.length M), (recs qnC M)⟩, ⟨25, 8, (obj b), 1, (qR h v)⟩, ⟨25, 8, (obj c), 1, (qP 0 (.slice none 0 0))⟩]) (T := T) hM m27
      obtain ⟨v37, w38, hr39, hM40⟩ := m_lit sT23 hM33 (n := 1) (parts := #[(0, (qA ((List.getD L i qz).h) u23))]) (cs := (qR ((List.getD L i qz).h) u23)) (by decide) (by kernel_rfl) rfl
      obtain ⟨v41, w42, hr43, hM44⟩ := m_append sT23 hM40 1 rfl (hM40.rd 0 rfl) (by intro u hu; simp only [List.mem_cons, List.not_mem_nil, or_false] at hu; rcases hu with rfl | rfl | rfl | rfl | rfl | rfl | rfl | rfl; exact rfl; exact rfl; exact rfl; exact rfl; exact rfl; exact rfl; exact rfl; exact (QT.rd hM40 (fun r_ h_ => List.mem_cons_of_mem _ (List.mem_cons_of_mem _ (List.mem_cons_of_mem _ (List.mem_cons_of_mem _ (List.mem_append_left _ (h_)))))) hqt31).one.1) (by first | omega | (dsimp only; omega)) (by first | omega | (dsimp only; omega)) 23
      have hM45 : Mem [] w0 w42 (⟨25, 8, v37, 1, (qR ((List.getD L i qz).h) u23)⟩ :: ⟨25, 8, v41, (List.length (M ++ ([(qn ((List.getD L i qz).h.op) ((List.getD L i qz).h.field) ((List.getD L i qz).h.text) ((List.getD L i qz).h.edits) ((List.getD L i qz).h.exact) ((List.getD L i qz).h.lo) ((List.getD L i qz).h.hi) u23)] : List QN))), (recs qnC (M ++ ([(qn ((List.getD L i qz).h.op) ((List.getD L i qz).h.field) ((List.getD L i qz).h.text) ((List.getD L i qz).h.edits) ((List.getD L i qz).h.exact) ((List.getD L i qz).h.lo) ((List.getD L i qz).h.hi) u23)] : List QN)))⟩ :: ⟨25, 8, (obj b), 1, (qR h v)⟩ :: ⟨25, 8, (obj c), 1, (qP 0 (.slice none 0 0))⟩ :: (T26 ++ T)) := hM44.cast (by simp [ivals, svals, bvals, nvals, u8s, Nat.add_assoc, recs, qnC])
      have o46 : (binOp .add 3 (.int .i64 ((i : Nat) : Int)) (.int .i64 1)).run Try.prog w42 = .ok (.int .i64 (((i + 1) : Nat) : Int)) w42 := f_add (by rw [show ((i : Nat) : Int) + 1 = (((i + 1) : Nat) : Int) by omega]; exact IntWalk.i64_in _ (by omega))
      have hM47 : Mem [] w0 w42 (⟨25, 8, v41, (List.length (M ++ ([(qn ((List.getD L i qz).h.op) ((List.getD L i qz).h.field) ((List.getD L i qz).h.text) ((List.getD L i qz).h.edits) ((List.getD L i qz).h.exact) ((List.getD L i qz).h.lo) ((List.getD L i qz).h.hi) u23)] : List QN))), (recs qnC (M ++ ([(qn ((List.getD L i qz).h.op) ((List.getD L i qz).h.field) ((List.getD L i qz).h.text) ((List.getD L i qz).h.edits) ((List.getD L i qz).h.exact) ((List.getD L i qz).h.lo) ((List.getD L i qz).h.hi) u23)] : List QN)))⟩ :: ⟨25, 8, (obj b), 1, (qR h v)⟩ :: ⟨25, 8, (obj c), 1, (qP 0 (.slice none 0 0))⟩ :: (T26 ++ T)) := hM45.sub (cn (cc (cc (cc (List.Sublist.refl _)))))
      refine GoS.run [1, 2, 3, 4] [.u (v37) (w38), .u (v41) (w42), .n, .n, .n, .n, .n, .h (.int .i64 (((i + 1) : Nat) : Int)), .n, .n, .n] _ [.code (csub (cd Try.f9) [1,1,0,1,0,0]), .inLoop (csub (cd Try.f9) [1,1,0,1,0,0]), .inBlock 0, .code (csub (cd Try.f9) [1,1,1])] [(1, pq b), (2, pq c), (3, v41), (4, .int .i64 (((i + 1) : Nat) : Int))] w42 (by kernel_rfl) (.cons hr39 (.cons hr43 (.cons o46 .nil))) ?_
      exact ih_ (i + 1) v41 (M ++ ([(qn ((List.getD L i qz).h.op) ((List.getD L i qz).h.field) ((List.getD L i qz).h.text) ((List.getD L i qz).h.edits) ((List.getD L i qz).h.exact) ((List.getD L i qz).h.lo) ((List.getD L i qz).h.hi) u23)] : List QN)) (T26 ++ T) _ (by omega) (by simp; omega) (fun j hj => by rcases Nat.lt_succ_iff_lt_or_eq.1 hj with g | g; rw [qn_left (by omega)]; exact hMh j g; rw [g, qn_right hMl]; exact (hh i (by omega))) (fun j hj => by rcases Nat.lt_succ_iff_lt_or_eq.1 hj with g | g; rw [qn_left (by omega)]; exact (hMt j g).sub (fun r hr => List.mem_append_right _ hr); rw [g, qn_right hMl]; exact hqt31.sub (fun r hr => List.mem_append_left _ hr)) ((hM47.sub (cc (cc (cc (List.Sublist.refl _)))))) (by omega)
    ·
      have h3p : ¬ (((i : Nat) : Int) < (((List.length L) : Nat) : Int)) := of_decide_eq_false h3
      obtain ⟨w4, hr5, hM6⟩ := c_store (u := u) (by kernel_rfl) hM 1 rfl (cel_obj b 7) (by decide) (rd_one (hM.rd 0 rfl)) (rd_cells (hM.rd 0 rfl))
      have hM7 : Mem [] w0 w4 (⟨25, 8, u, (List.length M), (recs qnC M)⟩ :: ⟨25, 8, (obj b), 1, (qR h u)⟩ :: ⟨25, 8, (obj c), 1, (qP 0 (.slice none 0 0))⟩ :: T) := hM6
      have o12 : (Instr.storeAt 23 (.pointer (some (⟨b, 7, none⟩))) (u)).run Try.prog w = .ok () w4 ∧ undef = undef := ⟨hr5, rfl⟩
      have o13 : (Instr.loadAt 25 (pq b)).run Try.prog w4 = .ok ((qA h u)) w4 := c_loads (ys := (qR h u)) aE25 (hM7.rd 1 rfl) (cel_obj b 0) rfl (by intro j u hj; match j, hj with | 0, hj => exact hj | 1, hj => exact hj | 2, hj => exact hj | 3, hj => exact hj | 4, hj => exact hj | 5, hj => exact hj | 6, hj => exact hj | 7, hj => exact hj | n + 8, hj => cases hj)
      obtain ⟨w8, hr9, hM10⟩ := c_stores (ys := (qR h u)) aE25 hM7 2 rfl (cel_obj c 0) rfl (by decide) (by intro u hu; simp at hu; rcases hu with rfl | rfl | rfl | rfl | rfl | rfl | rfl | rfl <;> first | rfl | exact (rd_one (hM7.rd 0 rfl)))
      have hM11 : Mem [] w0 w8 (⟨25, 8, u, (List.length M), (recs qnC M)⟩ :: ⟨25, 8, (obj b), 1, (qR h u)⟩ :: ⟨25, 8, (obj c), 1, (qR h u)⟩ :: T) := hM10
      have o14 : (Instr.storeAt 25 (pq c) ((qA h u))).run Try.prog w4 = .ok () w8 ∧ undef = undef := ⟨hr9, rfl⟩
      refine GoS.run [2] [.n, .n, .n, .n, .n, .u (undef) (w4), .n, .n, .n, .h ((qA h u)), .u (undef) (w8), .n] _ [.code (csub (cd Try.f9) [1,1,1,1,1])] [(2, pq c)] w8 (by kernel_rfl) (.cons o12 (.cons o13 (.cons o14 .nil))) ?_
      have o15 : (Instr.loadAt 25 (pq c)).run Try.prog w8 = .ok ((qA h u)) w8 := c_loads (ys := (qR h u)) aE25 (hM11.rd 2 rfl) (cel_obj c 0) rfl (by intro j u hj; match j, hj with | 0, hj => exact hj | 1, hj => exact hj | 2, hj => exact hj | 3, hj => exact hj | 4, hj => exact hj | 5, hj => exact hj | 6, hj => exact hj | 7, hj => exact hj | n + 8, hj => cases hj)
      refine GoS.retC (fn := Try.f9) (rs := [.cell 2 25]) [(qA h u)] (v := ((qA h u))) Try.func9 (by kernel_rfl) (ResC.cell (by kernel_rfl) o15 ResC.nil) rfl ?_
      rw [hR]
      exact ⟨u, M, T, rfl, by omega, fun j hj => hMh j (by omega), fun j hj => hMt j (by omega), hM11.sub (cc (cn (cn (List.Sublist.refl _))))⟩

set_option maxHeartbeats 400000 in
theorem copy_s (N : Nat) (ih : ∀ (q : Q), bulkQ q < N → ∀ {w : World} (h : Hd) (he : h = q.h) (v : Value) (hq : RdQ w q v) (hb : bulkQ q ≤ 1048576), Calls Try.prog 9 #[(qA h v)] w (fun e w' => ∃ (u : Value) (M : List QN) (T : List Row), e = .returned ((qA h u)) ∧ M.length = q.l.length ∧ (∀ j, j < q.l.length → (M.getD j qz).h = (q.l.getD j q0).h) ∧ (∀ j, j < q.l.length → QT T (q.l.getD j q0) (M.getD j qz).parts) ∧ Mem [] w w' (⟨25, 8, u, (List.length M), (recs qnC M)⟩ :: T))) {w : World} (q : Q) (h : Hd) (he : h = q.h) (v : Value) (hq : RdQ w q v) (hb : bulkQ q ≤ 1048576) (hN : bulkQ q = N) :
    Calls Try.prog 9 #[(qA h v)] w (fun e w' => ∃ (u : Value) (M : List QN) (T : List Row), e = .returned ((qA h u)) ∧ M.length = q.l.length ∧ (∀ j, j < q.l.length → (M.getD j qz).h = (q.l.getD j q0).h) ∧ (∀ j, j < q.l.length → QT T (q.l.getD j q0) (M.getD j qz).parts) ∧ Mem [] w w' (⟨25, 8, u, (List.length M), (recs qnC M)⟩ :: T)) := by
  obtain ⟨L, hr, hl, hh, hs⟩ := hq.inv
  have hbl : bulkL q.l + q.h.field.length + q.h.text.length + 1 = bulkQ q := by cases q; rw [bulkQ_mk]; rfl
  have hln := bulk_len q.l
  obtain ⟨R, hR⟩ : ∃ R : Ending → World → Prop, R = (fun e w' => ∃ (u : Value) (M : List QN) (T : List Row), e = .returned ((qA h u)) ∧ M.length = q.l.length ∧ (∀ j, j < q.l.length → (M.getD j qz).h = (q.l.getD j q0).h) ∧ (∀ j, j < q.l.length → QT T (q.l.getD j q0) (M.getD j qz).parts) ∧ Mem [] w w' (⟨25, 8, u, (List.length M), (recs qnC M)⟩ :: T)) := ⟨_, rfl⟩
  rw [← hR]
  refine GoS.enter (n := 24) Try.func9 (by kernel_rfl) rfl [(0, (qA h v))] (by kernel_rfl) (by kernel_rfl) ?_
  have hM0 := Mem.start w
  obtain ⟨b1, w2, hr3, hM4⟩ := m_box (T := 25) (k := 8) (u := (qA h v)) rfl rfl hM0
  have hM5 : Mem [] w w2 [⟨25, 8, (obj b1), 1, (qR h v)⟩] := hM4
  have o11 : (Instr.box 25 ((qA h v))).run Try.prog w = .ok (pq b1) w2 := hr3
  obtain ⟨b6, w7, hr8, hM9⟩ := m_alloc oT25 hM5
  have hM10 : Mem [] w w7 [⟨25, 8, (obj b6), 1, (qP 0 (.slice none 0 0))⟩, ⟨25, 8, (obj b1), 1, (qR h v)⟩] := hM9
  refine GoS.run [1, 2, 3, 4] [.n, .n, .u (pq b1) (w2), .u (pq b6) (w7), .n, .n, .n, .n, .n, .n, .n, .n, .n, .n, .n, .n] _ [.code (csub (cd Try.f9) [1,1,0,1,0,0]), .inLoop (csub (cd Try.f9) [1,1,0,1,0,0]), .inBlock 0, .code (csub (cd Try.f9) [1,1,1])] [(1, pq b1), (2, pq b6), (3, .slice none 0 0), (4, .int .i64 0)] w7 (by kernel_rfl) (.cons o11 (.cons hr8 .nil)) ?_
  have hM12 := hM10.nilrow 25 8
  have hM13 : Mem [] w w7 [⟨25, 8, (obj b6), 1, (qP 0 (.slice none 0 0))⟩, ⟨25, 8, (.slice none 0 0), 0, []⟩, ⟨25, 8, (obj b1), 1, (qR h v)⟩] := hM12.perm (pS pR)
  have hM14 : Mem [] w w7 [⟨25, 8, (obj b1), 1, (qR h v)⟩, ⟨25, 8, (obj b6), 1, (qP 0 (.slice none 0 0))⟩, ⟨25, 8, (.slice none 0 0), 0, []⟩] := hM13.perm (pS (pS pR))
  have hM15 : Mem [] w w7 [⟨25, 8, (.slice none 0 0), 0, []⟩, ⟨25, 8, (obj b1), 1, (qR h v)⟩, ⟨25, 8, (obj b6), 1, (qP 0 (.slice none 0 0))⟩] := hM14.perm (pS (pS pR))
  exact copy_L N ih q h he v hq hb L hr hl hh hs b1 b6 hN R hR (L.length + 1) 0 (.slice none 0 0) [] [] w7 (Nat.zero_le _) rfl (fun j hj => absurd hj (Nat.not_lt_zero _)) (fun j hj => absurd hj (Nat.not_lt_zero _)) hM15 (by omega)

theorem copy_n : ∀ (N : Nat), ∀ (q : Q), bulkQ q ≤ N → ∀ {w : World} (h : Hd) (he : h = q.h) (v : Value) (hq : RdQ w q v) (hb : bulkQ q ≤ 1048576), Calls Try.prog 9 #[(qA h v)] w (fun e w' => ∃ (u : Value) (M : List QN) (T : List Row), e = .returned ((qA h u)) ∧ M.length = q.l.length ∧ (∀ j, j < q.l.length → (M.getD j qz).h = (q.l.getD j q0).h) ∧ (∀ j, j < q.l.length → QT T (q.l.getD j q0) (M.getD j qz).parts) ∧ Mem [] w w' (⟨25, 8, u, (List.length M), (recs qnC M)⟩ :: T)) := by
  intro N
  induction N with
  | zero => intro q hn; have := bulk_pos q; omega
  | succ N ihn => intro q hn w h he v hq hb; exact copy_s (bulkQ q) (fun c hc => ihn c (by omega)) q h he v hq hb rfl

theorem copy_c {w : World} (q : Q) (h : Hd) (he : h = q.h) (v : Value) (hq : RdQ w q v) (hb : bulkQ q ≤ 1048576) :
    Calls Try.prog 9 #[(qA h v)] w (fun e w' => ∃ (u : Value) (M : List QN) (T : List Row), e = .returned ((qA h u)) ∧ M.length = q.l.length ∧ (∀ j, j < q.l.length → (M.getD j qz).h = (q.l.getD j q0).h) ∧ (∀ j, j < q.l.length → QT T (q.l.getD j q0) (M.getD j qz).parts) ∧ Mem [] w w' (⟨25, 8, u, (List.length M), (recs qnC M)⟩ :: T)) := copy_n (bulkQ q) q (Nat.le_refl _) h he v hq hb


end Go.Proofs.Ytnhplkkbpmijdaa
