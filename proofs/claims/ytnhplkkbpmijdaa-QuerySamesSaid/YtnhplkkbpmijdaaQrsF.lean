/-
  The walks of few and Few, of trees however great.
-/
import Derived.Test.YtnhplkkbpmijdaaQrsK
namespace Go.Proofs.Ytnhplkkbpmijdaa
open Go Go.Gw Go.UtfP Go.TokP Go.QryP Go.RowKit
set_option linter.unusedVariables false
set_option linter.unusedSimpArgs false


set_option maxHeartbeats 1000000 in
theorem wfew_L (N : Nat) (ih : ∀ (q : Q), sizeQ q < N → ∀ {w : World} (h : Hd) (he : h = q.h) (v : Value) (hq : RdQ w q v) (hb : True) (n : Nat) (hn : n ≤ 5000), Calls Try.prog 17 #[(qA h v), .int .i64 ((n : Nat) : Int)] w (fun e w' => e = .returned (.int .i64 (((fewQ q n) : Nat) : Int)) ∧ Mem [] w w' [])) {w0 : World} (q : Q) (h : Hd) (he : h = q.h) (v : Value) (hq : RdQ w0 q v) (hb : True) (n : Nat) (hn : n ≤ 5000) (L : List QN) (hr : Rd w0 8 v L.length (recs qnC L)) (hl : L.length = q.l.length) (hh : ∀ j, j < q.l.length → (L.getD j qz).h = (q.l.getD j q0).h) (hs : ∀ j, j < q.l.length → RdQ w0 (q.l.getD j q0) (L.getD j qz).parts) (b : Nat) (hN : sizeQ q = N) (R : Ending → World → Prop) (hR : R = (fun e w' => e = .returned (.int .i64 (((fewQ q n) : Nat) : Int)) ∧ Mem [] w0 w' [])) : ∀ (M_ : Nat) (i m : Nat) (w : World) (hi : i ≤ L.length) (hF : fewL (q.l.drop i) m = fewQ q n) (hm : m ≤ 5001) (hM : Mem [] w0 w [⟨25, 8, (obj b), 1, (qR h v)⟩]) (hN : L.length - i < M_), GoS Try.prog 17 R 27 [.code (csub (cd Try.f17) [1,1,0,1,0,0]), .inLoop (csub (cd Try.f17) [1,1,0,1,0,0]), .inBlock 0, .code (csub (cd Try.f17) [1,1,1])] [(1, .int .i64 ((m : Nat) : Int)), (2, pq b), (5, .int .i64 ((i : Nat) : Int))] w := by
  intro M_
  induction M_ with
  | zero => intro i m w hi hF hm hM hN; exact absurd hN (Nat.not_lt_zero _)
  | succ M_ ih_ =>
    intro i m w hi hF hm hM hN
    have hln := rd_len hr
    simp only [maxLen] at hln
    have o1 : (Instr.loadAt 23 (.pointer (some (⟨b, 7, none⟩)))).run Try.prog w = .ok (v) w := c_load pE23 (hM.rd 0 rfl) (cel_obj b 7) rfl
    have o2 : (Builtin.len_ #[23] 3 #[v]).run Try.prog w = .ok (.int .i64 (((List.length L) : Nat) : Int)) w := f_slen sT23 (hr.kept0 hM.kept) 3 _
    refine GoS.run [1, 2, 5, 13] [.n, .n, .n, .n, .n, .h (v), .h (.int .i64 (((List.length L) : Nat) : Int)), .n, .n] _ [.inRegion (cops (csub (cd Try.f17) [1,1,0,1,0,0,0,0])) [6,7,8], .code (csub (cd Try.f17) [1,1,0,1,0,0,0,1]), .code (csub (cd Try.f17) [1,1,0,1,0,0,1]), .inLoop (csub (cd Try.f17) [1,1,0,1,0,0]), .inBlock 0, .code (csub (cd Try.f17) [1,1,1])] [(1, .int .i64 ((m : Nat) : Int)), (2, pq b), (5, .int .i64 ((i : Nat) : Int)), (13, .bool (decide (((i : Nat) : Int) < (((List.length L) : Nat) : Int))))] w (by kernel_rfl) (.cons o1 (.cons o2 .nil)) ?_
    refine GoS.fork 13 (decide (((i : Nat) : Int) < (((List.length L) : Nat) : Int))) (by kernel_rfl) (fun h3 => ?_) (fun h3 => ?_)
    ·
      have h3p : ((i : Nat) : Int) < (((List.length L) : Nat) : Int) := of_decide_eq_true h3
      refine GoS.run [1, 2, 5, 16] [.n, .n, .n] _ [.inRegion (cops (csub (cd Try.f17) [1,1,0,1,0,0,0,0])) [], .code (csub (cd Try.f17) [1,1,0,1,0,0,0,1]), .code (csub (cd Try.f17) [1,1,0,1,0,0,1]), .inLoop (csub (cd Try.f17) [1,1,0,1,0,0]), .inBlock 0, .code (csub (cd Try.f17) [1,1,1])] [(1, .int .i64 ((m : Nat) : Int)), (2, pq b), (5, .int .i64 ((i : Nat) : Int)), (16, .bool (decide (((m : Nat) : Int) ≤ 5000)))] w (by kernel_rfl) .nil ?_
      refine GoS.run [1, 2, 5, 16] [.n] _ [.code (csub (cd Try.f17) [1,1,0,1,0,0,0,1]), .code (csub (cd Try.f17) [1,1,0,1,0,0,1]), .inLoop (csub (cd Try.f17) [1,1,0,1,0,0]), .inBlock 0, .code (csub (cd Try.f17) [1,1,1])] [(1, .int .i64 ((m : Nat) : Int)), (2, pq b), (5, .int .i64 ((i : Nat) : Int)), (16, .bool (decide (((m : Nat) : Int) ≤ 5000)))] w (by kernel_rfl) .nil ?_
      refine GoS.cond (decide (((m : Nat) : Int) ≤ 5000)) [.code (csub (cd Try.f17) [1,1,0,1,0,0,0,1,0]), .code (csub (cd Try.f17) [1,1,0,1,0,0,1]), .inLoop (csub (cd Try.f17) [1,1,0,1,0,0]), .inBlock 0, .code (csub (cd Try.f17) [1,1,1])] [.code (csub (cd Try.f17) [1,1,0,1,0,0,0,1,1]), .code (csub (cd Try.f17) [1,1,0,1,0,0,1]), .inLoop (csub (cd Try.f17) [1,1,0,1,0,0]), .inBlock 0, .code (csub (cd Try.f17) [1,1,1])] (by kernel_rfl) (fun h4 => ?_) (fun h4 => ?_)
      ·
        have h4p : ((m : Nat) : Int) ≤ 5000 := of_decide_eq_true h4
        refine GoS.run [1, 2, 5] [.n] _ [.code (csub (cd Try.f17) [1,1,0,1,0,0,1]), .inLoop (csub (cd Try.f17) [1,1,0,1,0,0]), .inBlock 0, .code (csub (cd Try.f17) [1,1,1])] [(1, .int .i64 ((m : Nat) : Int)), (2, pq b), (5, .int .i64 ((i : Nat) : Int))] w (by kernel_rfl) .nil ?_
        have o9 : (Instr.loadAt 23 (.pointer (some (⟨b, 7, none⟩)))).run Try.prog w = .ok (v) w := c_load pE23 (hM.rd 0 rfl) (cel_obj b 7) rfl
        obtain ⟨p6, hp7, hq8⟩ := rd_at (i := ((i : Nat) : Int)) sT23 (hr.kept0 hM.kept) i (by omega) (by first | omega | (dsimp only; omega))
        have o10 : (Instr.indexAt 23 (v) (.int .i64 ((i : Nat) : Int))).run Try.prog w = .ok (.pointer (some p6)) w := hq8 _ _
        have o11 : (Instr.loadAt 25 (.pointer (some p6))).run Try.prog w = .ok ((qA ((List.getD L i qz).h) ((List.getD L i qz).parts))) w := r_loads (f := qnC) (l := L) aE25 (hr.kept0 hM.kept) qnC_len hp7 (by first | omega | (dsimp only; omega)) qz
        refine GoS.run [2, 5, 23, 24] [.n, .n, .n, .n, .h (v), .n, .h (.pointer (some p6)), .h ((qA ((List.getD L i qz).h) ((List.getD L i qz).parts))), .n] _ [.inRegion (cops (csub (cd Try.f17) [1,1,0,1,0,0,1,0,0])) [6,7], .inBlock 1, .code (csub (cd Try.f17) [1,1,0,1,0,0,1,1]), .inLoop (csub (cd Try.f17) [1,1,0,1,0,0]), .inBlock 0, .code (csub (cd Try.f17) [1,1,1])] [(2, pq b), (5, .int .i64 ((i : Nat) : Int)), (23, (qA ((List.getD L i qz).h) ((List.getD L i qz).parts))), (24, .int .i64 ((m : Nat) : Int))] w (by kernel_rfl) (.cons o9 (.cons o10 (.cons o11 .nil))) ?_
        have hkb15 := size_kid (l := q.l) (i := i) (by omega)
        have hsz16 : sizeL q.l + 1 = sizeQ q := by cases q; rw [sizeQ_mk]; rfl
        refine GoS.call [2, 5] 17 #[(qA ((List.getD L i qz).h) ((List.getD L i qz).parts)), .int .i64 ((m : Nat) : Int)] (some 25) [.inRegion (cops (csub (cd Try.f17) [1,1,0,1,0,0,1,0,0])) [7], .inBlock 1, .code (csub (cd Try.f17) [1,1,0,1,0,0,1,1]), .inLoop (csub (cd Try.f17) [1,1,0,1,0,0]), .inBlock 0, .code (csub (cd Try.f17) [1,1,1])] [(2, pq b), (5, .int .i64 ((i : Nat) : Int))] (by kernel_rfl) (ih (List.getD q.l i q0) (by omega) ((List.getD L i qz).h) (hh i (by omega)) ((List.getD L i qz).parts) ((hs i (by omega)).kept hM.kept) (by trivial) m (by omega)) ?_
        rintro _ w12 ⟨rfl, m13⟩
        refine ⟨_, rfl, ?_⟩
        have hM14 : Mem [] w0 w12 [⟨25, 8, (obj b), 1, (qR h v)⟩] := Mem.join (R := []) hM m13
        have o17 : (binOp .add 3 (.int .i64 ((i : Nat) : Int)) (.int .i64 1)).run Try.prog w12 = .ok (.int .i64 (((i + 1) : Nat) : Int)) w12 := f_add (by rw [show ((i : Nat) : Int) + 1 = (((i + 1) : Nat) : Int) by omega]; exact IntWalk.i64_in _ (by omega))
        refine GoS.run [1, 2, 5] [.n, .n, .n, .n, .n, .h (.int .i64 (((i + 1) : Nat) : Int)), .n, .n, .n] _ [.code (csub (cd Try.f17) [1,1,0,1,0,0]), .inLoop (csub (cd Try.f17) [1,1,0,1,0,0]), .inBlock 0, .code (csub (cd Try.f17) [1,1,1])] [(1, .int .i64 (((fewQ (List.getD q.l i q0) m) : Nat) : Int)), (2, pq b), (5, .int .i64 (((i + 1) : Nat) : Int))] w12 (by kernel_rfl) (.cons o17 .nil) ?_
        have hfb := few_cap (List.getD q.l i q0) (n := m) (by omega)
        exact ih_ (i + 1) _ _ (by omega) ((few_step (show i < q.l.length by omega) (by omega)).symm.trans hF) hfb (hM14.sub (cc (List.nil_sublist _))) (by omega)
      ·
        have h4p : ¬ (((m : Nat) : Int) ≤ 5000) := of_decide_eq_false h4
        have hM5 : Mem [] w0 w [] := hM.sub (cn (List.Sublist.refl _))
        refine GoS.run [4] [.n, .n, .n, .n, .n, .n] _ [.code (csub (cd Try.f17) [1,1,1,1])] [(4, .int .i64 ((m : Nat) : Int))] w (by kernel_rfl) .nil ?_
        refine GoS.ret (fn := Try.f17) (v := (.int .i64 ((m : Nat) : Int))) Try.func17 (by kernel_rfl) ?_
        rw [hR]
        exact ⟨ret_int (by rw [← hF, few_stop (.inr (by omega))]), hM5.sub (List.nil_sublist _)⟩
    ·
      have h3p : ¬ (((i : Nat) : Int) < (((List.length L) : Nat) : Int)) := of_decide_eq_false h3
      refine GoS.run [1, 2, 5, 16] [.n, .n, .n] _ [.inRegion (cops (csub (cd Try.f17) [1,1,0,1,0,0,0,0])) [], .code (csub (cd Try.f17) [1,1,0,1,0,0,0,1]), .code (csub (cd Try.f17) [1,1,0,1,0,0,1]), .inLoop (csub (cd Try.f17) [1,1,0,1,0,0]), .inBlock 0, .code (csub (cd Try.f17) [1,1,1])] [(1, .int .i64 ((m : Nat) : Int)), (2, pq b), (5, .int .i64 ((i : Nat) : Int)), (16, .bool false)] w (by kernel_rfl) .nil ?_
      have hM18 : Mem [] w0 w [] := hM.sub (cn (List.Sublist.refl _))
      refine GoS.run [4] [.n, .n, .n, .n, .n, .n, .n, .n] _ [.code (csub (cd Try.f17) [1,1,1,1])] [(4, .int .i64 ((m : Nat) : Int))] w (by kernel_rfl) .nil ?_
      refine GoS.ret (fn := Try.f17) (v := (.int .i64 ((m : Nat) : Int))) Try.func17 (by kernel_rfl) ?_
      rw [hR]
      exact ⟨ret_int (by rw [← hF, few_stop (.inl (by omega))]), hM18.sub (List.nil_sublist _)⟩

set_option maxHeartbeats 400000 in
theorem wfew_s (N : Nat) (ih : ∀ (q : Q), sizeQ q < N → ∀ {w : World} (h : Hd) (he : h = q.h) (v : Value) (hq : RdQ w q v) (hb : True) (n : Nat) (hn : n ≤ 5000), Calls Try.prog 17 #[(qA h v), .int .i64 ((n : Nat) : Int)] w (fun e w' => e = .returned (.int .i64 (((fewQ q n) : Nat) : Int)) ∧ Mem [] w w' [])) {w : World} (q : Q) (h : Hd) (he : h = q.h) (v : Value) (hq : RdQ w q v) (hb : True) (n : Nat) (hn : n ≤ 5000) (hN : sizeQ q = N) :
    Calls Try.prog 17 #[(qA h v), .int .i64 ((n : Nat) : Int)] w (fun e w' => e = .returned (.int .i64 (((fewQ q n) : Nat) : Int)) ∧ Mem [] w w' []) := by
  obtain ⟨L, hr, hl, hh, hs⟩ := hq.inv
  have hln := rd_len hr
  simp only [maxLen] at hln
  obtain ⟨R, hR⟩ : ∃ R : Ending → World → Prop, R = (fun e w' => e = .returned (.int .i64 (((fewQ q n) : Nat) : Int)) ∧ Mem [] w w' []) := ⟨_, rfl⟩
  rw [← hR]
  refine GoS.enter (n := 27) Try.func17 (by kernel_rfl) rfl [(0, (qA h v)), (1, .int .i64 ((n : Nat) : Int))] (by kernel_rfl) (by kernel_rfl) ?_
  have hM0 := Mem.start w
  obtain ⟨b1, w2, hr3, hM4⟩ := m_box (T := 25) (k := 8) (u := (qA h v)) rfl rfl hM0
  have hM5 : Mem [] w w2 [⟨25, 8, (obj b1), 1, (qR h v)⟩] := hM4
  have o6 : (Instr.box 25 ((qA h v))).run Try.prog w = .ok (pq b1) w2 := hr3
  have o7 : (binOp .add 3 (.int .i64 ((n : Nat) : Int)) (.int .i64 1)).run Try.prog w2 = .ok (.int .i64 (((n + 1) : Nat) : Int)) w2 := f_add (by rw [show ((n : Nat) : Int) + 1 = (((n + 1) : Nat) : Int) by omega]; exact IntWalk.i64_in _ (by omega))
  refine GoS.run [1, 2, 5] [.n, .n, .u (pq b1) (w2), .n, .n, .n, .n, .n, .h (.int .i64 (((n + 1) : Nat) : Int)), .n, .n, .n, .n, .n, .n, .n, .n, .n] _ [.code (csub (cd Try.f17) [1,1,0,1,0,0]), .inLoop (csub (cd Try.f17) [1,1,0,1,0,0]), .inBlock 0, .code (csub (cd Try.f17) [1,1,1])] [(1, .int .i64 (((n + 1) : Nat) : Int)), (2, pq b1), (5, .int .i64 0)] w2 (by kernel_rfl) (.cons o6 (.cons o7 .nil)) ?_
  exact wfew_L N ih q h he v hq hb n hn L hr hl hh hs b1 hN R hR (L.length + 1) 0 (n + 1) w2 (Nat.zero_le _) (few_go q n) (by omega) (hM5.sub (cc (List.nil_sublist _))) (by omega)

theorem wfew_c_n : ∀ (N : Nat), ∀ (q : Q), sizeQ q ≤ N → ∀ {w : World} (h : Hd) (he : h = q.h) (v : Value) (hq : RdQ w q v) (hb : True) (n : Nat) (hn : n ≤ 5000), Calls Try.prog 17 #[(qA h v), .int .i64 ((n : Nat) : Int)] w (fun e w' => e = .returned (.int .i64 (((fewQ q n) : Nat) : Int)) ∧ Mem [] w w' []) := by
  intro N
  induction N with
  | zero => intro q hn; have := size_pos q; omega
  | succ N ihn => intro q hn w h he v hq hb n hn; exact wfew_s (sizeQ q) (fun c hc => ihn c (by omega)) q h he v hq hb n hn rfl

theorem wfew_c {w : World} (q : Q) (h : Hd) (he : h = q.h) (v : Value) (hq : RdQ w q v) (hb : True) (n : Nat) (hn : n ≤ 5000) :
    Calls Try.prog 17 #[(qA h v), .int .i64 ((n : Nat) : Int)] w (fun e w' => e = .returned (.int .i64 (((fewQ q n) : Nat) : Int)) ∧ Mem [] w w' []) := wfew_c_n (sizeQ q) q (Nat.le_refl _) h he v hq hb n hn

set_option maxHeartbeats 1000000 in
theorem wfewb_c {w : World} (q : Q) (h : Hd) (he : h = q.h) (v : Value) (hq : RdQ w q v) (hb : True) :
    Calls Try.prog 7 #[(qA h v)] w (fun e w' => e = .returned (.bool (decide (((fewQ q 0 : Nat) : Int) ≤ 5000))) ∧ Mem [] w w' []) := by
  obtain ⟨L, hr, hl, hh, hs⟩ := hq.inv
  have hln := rd_len hr
  simp only [maxLen] at hln
  obtain ⟨R, hR⟩ : ∃ R : Ending → World → Prop, R = (fun e w' => e = .returned (.bool (decide (((fewQ q 0 : Nat) : Int) ≤ 5000))) ∧ Mem [] w w' []) := ⟨_, rfl⟩
  rw [← hR]
  refine GoS.enter (n := 6) Try.func7 (by kernel_rfl) rfl [(0, (qA h v))] (by kernel_rfl) (by kernel_rfl) ?_
  have hM0 := Mem.start w
  obtain ⟨b1, w2, hr3, hM4⟩ := m_box (T := 25) (k := 8) (u := (qA h v)) rfl rfl hM0
  have hM5 : Mem [] w w2 [⟨25, 8, (obj b1), 1, (qR h v)⟩] := hM4
  have o6 : (Instr.box 25 ((qA h v))).run Try.prog w = .ok (pq b1) w2 := hr3
  have o7 : (Instr.loadAt 25 (pq b1)).run Try.prog w2 = .ok ((qA h v)) w2 := c_loads (ys := (qR h v)) aE25 (hM5.rd 0 rfl) (cel_obj b1 0) rfl (by intro j u hj; match j, hj with | 0, hj => exact hj | 1, hj => exact hj | 2, hj => exact hj | 3, hj => exact hj | 4, hj => exact hj | 5, hj => exact hj | 6, hj => exact hj | 7, hj => exact hj | n + 8, hj => cases hj)
  have hM8 : Mem [] w w2 [] := hM5.sub (cn (List.Sublist.refl _))
  refine GoS.run [3] [.n, .n, .u (pq b1) (w2), .n, .n, .n, .n, .h ((qA h v))] _ [.inRegion (cops (csub (cd Try.f7) [1,0])) [1,2,3], .code (csub (cd Try.f7) [1,1])] [(3, (qA h v))] w2 (by kernel_rfl) (.cons o6 (.cons o7 .nil)) ?_
  refine GoS.call [] 17 #[(qA h v), .int .i64 0] (some 4) [.inRegion (cops (csub (cd Try.f7) [1,0])) [2,3], .code (csub (cd Try.f7) [1,1])] [] (by kernel_rfl) (wfew_c q h he v (hq.kept hM8.kept) (by trivial) 0 (by omega)) ?_
  rintro _ w9 ⟨rfl, m10⟩
  refine ⟨_, rfl, ?_⟩
  have hM11 : Mem [] w w9 [] := Mem.join (R := []) hM8 m10
  refine GoS.run [2] [.n, .n, .n] _ [.code (csub (cd Try.f7) [1,1])] [(2, .bool (decide ((((fewQ q 0) : Nat) : Int) ≤ 5000)))] w9 (by kernel_rfl) .nil ?_
  refine GoS.ret (fn := Try.f7) (v := (.bool (decide ((((fewQ q 0) : Nat) : Int) ≤ 5000)))) Try.func7 (by kernel_rfl) ?_
  rw [hR]
  exact ⟨rfl, hM11.sub (List.nil_sublist _)⟩


end Go.Proofs.Ytnhplkkbpmijdaa
