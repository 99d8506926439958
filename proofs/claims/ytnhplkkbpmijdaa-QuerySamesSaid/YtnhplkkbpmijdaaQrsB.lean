/-
  The walks of few, Few and flat.
-/
import Derived.Test.YtnhplkkbpmijdaaQryM
import Derived.Test.YtnhplkkbpmijdaaQryS
namespace Go.Proofs.Ytnhplkkbpmijdaa
open Go Go.Gw Go.UtfP Go.TokP Go.QryP Go.RowKit
set_option linter.unusedVariables false
set_option linter.unusedSimpArgs false


set_option maxHeartbeats 1000000 in
theorem zfew_L (N : Nat) (ih : ∀ (q : Q), sizeQ q < N → ∀ {w : World} (h : Hd) (he : h = q.h) (v : Value) (hq : RdQ w q v) (hb : sizeQ q ≤ 1048576) (n : Nat) (hn : n + sizeQ q ≤ 1100000), Calls Try.prog 17 #[(qA h v), .int .i64 ((n : Nat) : Int)] w (fun e w' => e = .returned (.int .i64 (((fewQ q n) : Nat) : Int)) ∧ Mem [] w w' [])) {w0 : World} (q : Q) (h : Hd) (he : h = q.h) (v : Value) (hq : RdQ w0 q v) (hb : sizeQ q ≤ 1048576) (n : Nat) (hn : n + sizeQ q ≤ 1100000) (L : List QN) (hr : Rd w0 8 v L.length (recs qnC L)) (hl : L.length = q.l.length) (hh : ∀ j, j < q.l.length → (L.getD j qz).h = (q.l.getD j q0).h) (hs : ∀ j, j < q.l.length → RdQ w0 (q.l.getD j q0) (L.getD j qz).parts) (b : Nat) (hN : sizeQ q = N) (R : Ending → World → Prop) (hR : R = (fun e w' => e = .returned (.int .i64 (((fewQ q n) : Nat) : Int)) ∧ Mem [] w0 w' [])) : ∀ (M_ : Nat) (i m : Nat) (w : World) (hi : i ≤ L.length) (hF : fewL (q.l.drop i) m = fewQ q n) (hm : m ≤ n + 1 + sizeL (List.take i q.l)) (hM : Mem [] w0 w [⟨25, 8, (obj b), 1, (qR h v)⟩]) (hN : L.length - i < M_), GoS Try.prog 17 R 27 [.code (csub (cd Try.f17) [1,1,0,1,0,0]), .inLoop (csub (cd Try.f17) [1,1,0,1,0,0]), .inBlock 0, .code (csub (cd Try.f17) [1,1,1])] [(1, .int .i64 ((m : Nat) : Int)), (2, pq b), (5, .int .i64 ((i : Nat) : Int))] w := by
  intro M_
  induction M_ with
  | zero => intro i m w hi hF hm hM hN; exact absurd hN (Nat.not_lt_zero _)
  | succ M_ ih_ =>
    intro i m w hi hF hm hM hN
    have hbl : sizeL q.l + 1 = sizeQ q := by cases q; rw [sizeQ_mk]; rfl
    have hln := size_len q.l
    have hst := sizeL_le (List.take i q.l)
    have hbt := size_take q.l i
    have hbt1 := size_take q.l (i + 1)
    have o1 : (Instr.loadAt 23 (.pointer (some (⟨b, 7, none⟩)))).run Try.prog w = .ok (v) w := c_load pE23 (hM.rd 0 rfl) (cel_obj b 7) rfl
    have o2 : (Builtin.len_ #[23] 3 #[v]).run Try.prog w = .ok (.int .i64 (((List.length L) : Nat) : Int)) w := f_slen sT23 (hr.kept0 hM.kept) 3 _
    refine GoS.run [1, 2, 5, 13] [.n, .n, .n, .n, .n, .h (v), .h (.int .i64 (((List.length L) : Nat) : Int)), .n, .n] _ [.inRegion (cops (csub (cd Try.f17) [1,1,0,1,0,0,0,0])) [6,7,8], .code (csub (cd Try.f17) [1,1,0,1,0,0,0,1]), .code (csub (cd Try.f17) [1,1,0,1,0,0,1]), .inLoop (csub (cd Try.f17) [1,1,0,1,0,0]), .inBlock 0, .code (csub (cd Try.f17) [1,1,1])] [(1, .int .i64 ((m : Nat) : Int)), (2, pq b), (5, .int .i64 ((i : Nat) : Int)), (13, .bool (decide (((i : Nat) : Int) < (((List.length L) : Nat) : Int))))] w (by kernel_rfl) (.cons o1 (.cons o2 .nil)) ?_
    refine GoS.fork 13 (decide (((i : Nat) : Int) < (((List.length L) : Nat) : Int))) (by kernel_rfl) (fun h3 => ?_) (fun h3 => ?_)
    ·
      have h3p : ((i : Nat) : Int) < (((List.length L) : Nat) : Int) := of_decide_eq_true h3
      refine GoS.run [1, 2, 5, 16] [.n, .n, .n] _ [.inRegion (cops (csub (cd Try.f17) [1,1,0,1,0,0,0,0])) [], .code (csub (cd Try.f17) [1,1,0,1,0,0,0,1]), .code (csub (cd Try.f17) [1,1,0,1,0,0,1]), .inLoop (csub (cd Try.f17) [1,1,0,1,0,0]), .inBlock 0, .code (csub (cd Try.f17) [1,1,1])] [(1, .int .i64 ((m : Nat) : Int)), (2, pq b), (5, .int .i64 ((i : Nat) : Int)), (16, .bool (decide (((m : Nat) : Int) ≤ 5000)))] w (by kernel_rfl) .nil ?_
      refine GoS.run [1, 2, 5, 16] [.n] _ [.code (csub (cd Try.f17) [1,1,0,1,0,0,0,1]), .code (csub (cd Try.f17) [1,1,0,1,0,0,1]), .inLoop (csub (cd Try.f17) [1,1,0,1,0,0]), .inBlock 0, .code (csub (cd Try.f17) [1,1,1])] [(1, .int .i64 ((m : Nat) : Int)), (2, pq b), (5, .int .i64 ((i : Nat) : Int)), (16, .bool (decide (((m : Nat) : Int) ≤ 5000)))] w (by kernel_rfl) .nil ?_
      refine GoS.cond (decide (((m : Nat) : Int) ≤ 5000)) [.code (csub (cd Try.f17) [1,1,0,1,0,0,0,1,0]), .code (csub (cd Try.f17) [1,1,0,1,0,0,1]), .inLoop (csub (cd Try.f17) [1,1,0,1,0,0]), .inBlock 0, .code (csub (cd Try.f17) [1,1,1])] [.code (csub (cd Try.f17) [1,1,0,1,0,0,0,1,1]), .code (csub (cd Try.f17) [1,1,0,1,0,0,1]), .inLoop (csub (cd Try.f17) [1,1,0,1,0,0]), .inBlock 0, .code (csub (cd Try.f17) [1,1,1])] (by kernel_rfl) (fun h4 => ?_) (fun h4 => ?_)
      ·
        have h4p : ((m : Nat) : Int) ≤ 5000 := of_decide_eq_true h4
        refine GoS.run [1, 2, 5] [.n] _ [.code (csub (cd Try.f17) [1,1,0,1,0,0,1]), .inLoop (csub (cd Try.f17) [1,1,0,1,0,0]), .inBlock 0, .code (csub (cd Try.f17) [1,1,1])] [(1, .int .i64 ((m : Nat) : Int)), (2, pq b), (5, .int .i64 ((i : Nat) : Int))] w (by kernel_rfl) .nil ?_
        have o9 : (Instr.loadAt 23 (.pointer (some (⟨b, 7, none⟩)))).run Try.prog w = .ok (v) w := c_load pE23 (hM.rd 0 rfl) (cel_obj b 7) rfl
        obtain ⟨p6, hp7, hq8⟩ := rd_at (i := ((i : Nat) : Int)) sT23 (hr.kept0 hM.kept) i (by omega) (by first | omega | (dsimp only; omega))
        have o10 : (Instr.indexAt 23 (v) (.int .i64 ((i : Nat) : Int))).run Try.prog w = .ok (.pointer (some p6)) w := hq8 _ _
        have o11 : (Instr.loadAt 25 (.pointer (some p6))).run Try.prog w = .ok ((qA ((List.getD L i qz).h) ((List.getD L i qz).parts))) w := r_loads (f := qnC) (l := L) aE25 (hr.kept0 hM.kept) qnC_len hp7 (by first | omega | (dsimp only; omega)) qz
        refine GoS.run [2, 5, 23, 24] [.n, .n, .n, .n, .h (v), .n, .h (.pointer (some p6)), .h ((qA ((List.getD L i qz).h) ((List.getD L i qz).parts))), .n] _ [.inRegion (cops (csub (cd Try.f17) [1,1,0,1,0,0,1,0,0])) [6,7], .inBlock 1, .code (csub (cd Try.f17) [1,1,0,1,0,0,1,1]), .inLoop (csub (cd Try.f17) [1,1,0,1,0,0]), .inBlock 0, .code (csub (cd Try.f17) [1,1,1])] [(2, pq b), (5, .int .i64 ((i : Nat) : Int)), (23, (qA ((List.getD L i qz).h) ((List.getD L i qz).parts))), (24, .int .i64 ((m : Nat) : Int))] w (by kernel_rfl) (.cons o9 (.cons o10 (.cons o11 .nil))) ?_
        have hkb15 := size_kid (l := q.l) (i := i) (by omega)
        have hks16 := size_le (List.getD q.l i q0)
        have hbs17 := size_step (l := q.l) (i := i) (by omega)
        refine GoS.call [2, 5] 17 #[(qA ((List.getD L i qz).h) ((List.getD L i qz).parts)), .int .i64 ((m : Nat) : Int)] (some 25) [.inRegion (cops (csub (cd Try.f17) [1,1,0,1,0,0,1,0,0])) [7], .inBlock 1, .code (csub (cd Try.f17) [1,1,0,1,0,0,1,1]), .inLoop (csub (cd Try.f17) [1,1,0,1,0,0]), .inBlock 0, .code (csub (cd Try.f17) [1,1,1])] [(2, pq b), (5, .int .i64 ((i : Nat) : Int))] (by kernel_rfl) (ih (List.getD q.l i q0) (by omega) ((List.getD L i qz).h) (hh i (by omega)) ((List.getD L i qz).parts) ((hs i (by omega)).kept hM.kept) (by omega) m (by omega)) ?_
        rintro _ w12 ⟨rfl, m13⟩
        refine ⟨_, rfl, ?_⟩
        have hM14 : Mem [] w0 w12 [⟨25, 8, (obj b), 1, (qR h v)⟩] := Mem.join (R := []) hM m13
        have o18 : (binOp .add 3 (.int .i64 ((i : Nat) : Int)) (.int .i64 1)).run Try.prog w12 = .ok (.int .i64 (((i + 1) : Nat) : Int)) w12 := f_add (by rw [show ((i : Nat) : Int) + 1 = (((i + 1) : Nat) : Int) by omega]; exact IntWalk.i64_in _ (by omega))
        refine GoS.run [1, 2, 5] [.n, .n, .n, .n, .n, .h (.int .i64 (((i + 1) : Nat) : Int)), .n, .n, .n] _ [.code (csub (cd Try.f17) [1,1,0,1,0,0]), .inLoop (csub (cd Try.f17) [1,1,0,1,0,0]), .inBlock 0, .code (csub (cd Try.f17) [1,1,1])] [(1, .int .i64 (((fewQ (List.getD q.l i q0) m) : Nat) : Int)), (2, pq b), (5, .int .i64 (((i + 1) : Nat) : Int))] w12 (by kernel_rfl) (.cons o18 .nil) ?_
        have hfb := few_bd (List.getD q.l i q0) m
        exact ih_ (i + 1) _ _ (by omega) ((few_step (show i < q.l.length by omega) (by omega)).symm.trans hF) (by rw [size_step (show i < q.l.length by omega)]; omega) (hM14.sub (cc (List.nil_sublist _))) (by omega)
      ·
        have h4p : ¬ (((m : Nat) : Int) ≤ 5000) := of_decide_eq_false h4
        have hM5 : Mem [] w0 w [] := hM.sub (cn (List.Sublist.refl _))
        refine GoS.run [4] [.n, .n, .n, .n, .n, .n] _ [.code (csub (cd Try.f17) [1,1,1,1])] [(4, .int .i64 ((m : Nat) : Int))] w (by kernel_rfl) .nil ?_
        refine GoS.ret (fn := Try.f17) (v := (.int .i64 ((m : Nat) : Int))) Try.func17 (by kernel_rfl) ?_
        rw [hR]
        exact ⟨ret_int (by rw [← hF, few_stop (.inr (by omega))]), hM5.sub (List.nil_sublist _)⟩
    ·
      have h3p : ¬ (((i : Nat) : Int) < (((List.length L) : Nat) : Int)) := of_decide_eq_false h3
      refine GoS.run [1, 2, 5, 16] [.n, .n, .n] _ [.inRegion (cops (csub (cd Try.f17) [1,1,0,1,0,0,0,0])) [], .code (csub (cd Try.f17) [1,1,0,1,0,0,0,1]), .code (csub (cd Try.f17) [1,1,0,1,0,0,1]), .inLoop (csub (cd Try.f17) [1,1,0,1,0,0]), .inBlock 0, .code (csub (cd Try.f17) [1,1,1])] [(1, .int .i64 ((m : Nat) : Int)), (2, pq b), (5, .int .i64 ((i : Nat) : Int)), (16, .bool false)] w (by kernel_rfl) .nil ?_
      have hM19 : Mem [] w0 w [] := hM.sub (cn (List.Sublist.refl _))
      refine GoS.run [4] [.n, .n, .n, .n, .n, .n, .n, .n] _ [.code (csub (cd Try.f17) [1,1,1,1])] [(4, .int .i64 ((m : Nat) : Int))] w (by kernel_rfl) .nil ?_
      refine GoS.ret (fn := Try.f17) (v := (.int .i64 ((m : Nat) : Int))) Try.func17 (by kernel_rfl) ?_
      rw [hR]
      exact ⟨ret_int (by rw [← hF, few_stop (.inl (by omega))]), hM19.sub (List.nil_sublist _)⟩

set_option maxHeartbeats 400000 in
theorem zfew_s (N : Nat) (ih : ∀ (q : Q), sizeQ q < N → ∀ {w : World} (h : Hd) (he : h = q.h) (v : Value) (hq : RdQ w q v) (hb : sizeQ q ≤ 1048576) (n : Nat) (hn : n + sizeQ q ≤ 1100000), Calls Try.prog 17 #[(qA h v), .int .i64 ((n : Nat) : Int)] w (fun e w' => e = .returned (.int .i64 (((fewQ q n) : Nat) : Int)) ∧ Mem [] w w' [])) {w : World} (q : Q) (h : Hd) (he : h = q.h) (v : Value) (hq : RdQ w q v) (hb : sizeQ q ≤ 1048576) (n : Nat) (hn : n + sizeQ q ≤ 1100000) (hN : sizeQ q = N) :
    Calls Try.prog 17 #[(qA h v), .int .i64 ((n : Nat) : Int)] w (fun e w' => e = .returned (.int .i64 (((fewQ q n) : Nat) : Int)) ∧ Mem [] w w' []) := by
  obtain ⟨L, hr, hl, hh, hs⟩ := hq.inv
  have hbl : sizeL q.l + 1 = sizeQ q := by cases q; rw [sizeQ_mk]; rfl
  have hln := size_len q.l
  obtain ⟨R, hR⟩ : ∃ R : Ending → World → Prop, R = (fun e w' => e = .returned (.int .i64 (((fewQ q n) : Nat) : Int)) ∧ Mem [] w w' []) := ⟨_, rfl⟩
  rw [← hR]
  refine GoS.enter (n := 27) Try.func17 (by kernel_rfl) rfl [(0, (qA h v)), (1, .int .i64 ((n : Nat) : Int))] (by kernel_rfl) (by kernel_rfl) ?_
  have hM0 := Mem.start w
  obtain ⟨b1, w2, hr3, hM4⟩ := m_box (T := 25) (k := 8) (u := (qA h v)) rfl rfl hM0
  have hM5 : Mem [] w w2 [⟨25, 8, (obj b1), 1, (qR h v)⟩] := hM4
  have o6 : (Instr.box 25 ((qA h v))).run Try.prog w = .ok (pq b1) w2 := hr3
  have o7 : (binOp .add 3 (.int .i64 ((n : Nat) : Int)) (.int .i64 1)).run Try.prog w2 = .ok (.int .i64 (((n + 1) : Nat) : Int)) w2 := f_add (by rw [show ((n : Nat) : Int) + 1 = (((n + 1) : Nat) : Int) by omega]; exact IntWalk.i64_in _ (by omega))
  refine GoS.run [1, 2, 5] [.n, .n, .u (pq b1) (w2), .n, .n, .n, .n, .n, .h (.int .i64 (((n + 1) : Nat) : Int)), .n, .n, .n, .n, .n, .n, .n, .n, .n] _ [.code (csub (cd Try.f17) [1,1,0,1,0,0]), .inLoop (csub (cd Try.f17) [1,1,0,1,0,0]), .inBlock 0, .code (csub (cd Try.f17) [1,1,1])] [(1, .int .i64 (((n + 1) : Nat) : Int)), (2, pq b1), (5, .int .i64 0)] w2 (by kernel_rfl) (.cons o6 (.cons o7 .nil)) ?_
  exact zfew_L N ih q h he v hq hb n hn L hr hl hh hs b1 hN R hR (L.length + 1) 0 (n + 1) w2 (Nat.zero_le _) (few_go q n) (by simp [sizeL]) (hM5.sub (cc (List.nil_sublist _))) (by omega)

theorem zfew_c_n : ∀ (N : Nat), ∀ (q : Q), sizeQ q ≤ N → ∀ {w : World} (h : Hd) (he : h = q.h) (v : Value) (hq : RdQ w q v) (hb : sizeQ q ≤ 1048576) (n : Nat) (hn : n + sizeQ q ≤ 1100000), Calls Try.prog 17 #[(qA h v), .int .i64 ((n : Nat) : Int)] w (fun e w' => e = .returned (.int .i64 (((fewQ q n) : Nat) : Int)) ∧ Mem [] w w' []) := by
  intro N
  induction N with
  | zero => intro q hn; have := size_pos q; omega
  | succ N ihn => intro q hn w h he v hq hb n hn; exact zfew_s (sizeQ q) (fun c hc => ihn c (by omega)) q h he v hq hb n hn rfl

theorem zfew_c {w : World} (q : Q) (h : Hd) (he : h = q.h) (v : Value) (hq : RdQ w q v) (hb : sizeQ q ≤ 1048576) (n : Nat) (hn : n + sizeQ q ≤ 1100000) :
    Calls Try.prog 17 #[(qA h v), .int .i64 ((n : Nat) : Int)] w (fun e w' => e = .returned (.int .i64 (((fewQ q n) : Nat) : Int)) ∧ Mem [] w w' []) := zfew_c_n (sizeQ q) q (Nat.le_refl _) h he v hq hb n hn

set_option maxHeartbeats 1000000 in
theorem zfewb_c {w : World} (q : Q) (h : Hd) (he : h = q.h) (v : Value) (hq : RdQ w q v) (hb : sizeQ q ≤ 1048576) :
    Calls Try.prog 7 #[(qA h v)] w (fun e w' => e = .returned (.bool (decide (((fewQ q 0 : Nat) : Int) ≤ 5000))) ∧ Mem [] w w' []) := by
  obtain ⟨L, hr, hl, hh, hs⟩ := hq.inv
  have hbl : sizeL q.l + 1 = sizeQ q := by cases q; rw [sizeQ_mk]; rfl
  have hln := size_len q.l
  obtain ⟨R, hR⟩ : ∃ R : Ending → World → Prop, R = (fun e w' => e = .returned (.bool (decide (((fewQ q 0 : Nat) : Int) ≤ 5000))) ∧ Mem [] w w' []) := ⟨_, rfl⟩
  rw [← hR]
  refine GoS.enter (n := 6) Try.func7 (by kernel_rfl) rfl [(0, (qA h v))] (by kernel_rfl) (by kernel_rfl) ?_
  have hM0 := Mem.start w
  obtain ⟨b1, w2, hr3, hM4⟩ := m_box (T := 25) (k := 8) (u := (qA h v)) rfl rfl hM0
  have hM5 : Mem [] w w2 [⟨25, 8, (obj b1), 1, (qR h v)⟩] := hM4
  have o6 : (Instr.box 25 ((qA h v))).run Try.prog w = .ok (pq b1) w2 := hr3
  have o7 : (Instr.loadAt 25 (pq b1)).run Try.prog w2 = .ok ((qA h v)) w2 := c_loads (ys := (qR h v)) aE25 (hM5.rd 0 rfl) (cel_obj b1 0) rfl (by intro j u hj; match j, hj with | 0, hj => exact hj | 1, hj => exact hj | 2, hj => exact hj | 3, hj => exact hj | 4, hj => exact hj | 5, hj => exact hj | 6, hj => exact hj | 7, hj => exact hj | n + 8, hj => cases hj)
  have hM8 : Mem [] w w2 [] := hM5.sub (cn (List.Sublist.refl _))
  refine GoS.run [3] [.n, .n, .u (pq b1) (w2), .n, .n, .n, .n, .h ((qA h v))] _ [.inRegion (cops (csub (cd Try.f7) [1,0])) [1,2,3], .code (csub (cd Try.f7) [1,1])] [(3, (qA h v))] w2 (by kernel_rfl) (.cons o6 (.cons o7 .nil)) ?_
  refine GoS.call [] 17 #[(qA h v), .int .i64 0] (some 4) [.inRegion (cops (csub (cd Try.f7) [1,0])) [2,3], .code (csub (cd Try.f7) [1,1])] [] (by kernel_rfl) (zfew_c q h he v (hq.kept hM8.kept) (by omega) 0 (by omega)) ?_
  rintro _ w9 ⟨rfl, m10⟩
  refine ⟨_, rfl, ?_⟩
  have hM11 : Mem [] w w9 [] := Mem.join (R := []) hM8 m10
  refine GoS.run [2] [.n, .n, .n] _ [.code (csub (cd Try.f7) [1,1])] [(2, .bool (decide ((((fewQ q 0) : Nat) : Int) ≤ 5000)))] w9 (by kernel_rfl) .nil ?_
  refine GoS.ret (fn := Try.f7) (v := (.bool (decide ((((fewQ q 0) : Nat) : Int) ≤ 5000)))) Try.func7 (by kernel_rfl) ?_
  rw [hR]
  exact ⟨rfl, hM11.sub (List.nil_sublist _)⟩

set_option maxHeartbeats 400000 in
theorem zflat_c {w : World} (h : Hd) (v : Value) :
    Calls Try.prog 21 #[(qA h v)] w (fun e w' => e = .returned ((qH h)) ∧ Mem [] w w' []) := by
  obtain ⟨R, hR⟩ : ∃ R : Ending → World → Prop, R = (fun e w' => e = .returned ((qH h)) ∧ Mem [] w w' []) := ⟨_, rfl⟩
  rw [← hR]
  refine GoS.enter (n := 18) Try.func21 (by kernel_rfl) rfl [(0, (qA h v))] (by kernel_rfl) (by kernel_rfl) ?_
  have hM0 := Mem.start w
  obtain ⟨b1, w2, hr3, hM4⟩ := m_box (T := 25) (k := 8) (u := (qA h v)) rfl rfl hM0
  have hM5 : Mem [] w w2 [⟨25, 8, (obj b1), 1, (qR h v)⟩] := hM4
  have o15 : (Instr.box 25 ((qA h v))).run Try.prog w = .ok (pq b1) w2 := hr3
  obtain ⟨b6, w7, hr8, hM9⟩ := m_alloc oT38 hM5
  have hM10 : Mem [] w w7 [⟨38, 7, (obj b6), 1, [.int .i64 0, .string (sb ([])), .string (sb ([])), .int .i64 0, .int .i64 0, .int .u64 0, .int .u64 0]⟩, ⟨25, 8, (obj b1), 1, (qR h v)⟩] := hM9
  have o16 : (Instr.loadAt 3 (pq b1)).run Try.prog w7 = .ok (.int .i64 (h.op)) w7 := c_load pE3 (hM10.rd 1 rfl) (cel_obj b1 0) rfl
  have o17 : (Instr.loadAt 9 (.pointer (some (⟨b1, 1, none⟩)))).run Try.prog w7 = .ok (.string (sb (h.field))) w7 := c_load pE9 (hM10.rd 1 rfl) (cel_obj b1 1) rfl
  have o18 : (Instr.loadAt 9 (.pointer (some (⟨b1, 2, none⟩)))).run Try.prog w7 = .ok (.string (sb (h.text))) w7 := c_load pE9 (hM10.rd 1 rfl) (cel_obj b1 2) rfl
  have o19 : (Instr.loadAt 3 (.pointer (some (⟨b1, 3, none⟩)))).run Try.prog w7 = .ok (.int .i64 (h.edits)) w7 := c_load pE3 (hM10.rd 1 rfl) (cel_obj b1 3) rfl
  have o20 : (Instr.loadAt 3 (.pointer (some (⟨b1, 4, none⟩)))).run Try.prog w7 = .ok (.int .i64 (h.exact)) w7 := c_load pE3 (hM10.rd 1 rfl) (cel_obj b1 4) rfl
  have o21 : (Instr.loadAt 22 (.pointer (some (⟨b1, 5, none⟩)))).run Try.prog w7 = .ok (.int .u64 (h.lo)) w7 := c_load pE22 (hM10.rd 1 rfl) (cel_obj b1 5) rfl
  have o22 : (Instr.loadAt 22 (.pointer (some (⟨b1, 6, none⟩)))).run Try.prog w7 = .ok (.int .u64 (h.hi)) w7 := c_load pE22 (hM10.rd 1 rfl) (cel_obj b1 6) rfl
  obtain ⟨w11, hr12, hM13⟩ := c_stores (ys := [.int .i64 (h.op), .string (sb (h.field)), .string (sb (h.text)), .int .i64 (h.edits), .int .i64 (h.exact), .int .u64 (h.lo), .int .u64 (h.hi)]) aE38 hM10 0 rfl (cel_obj b6 0) rfl (by decide) (by intro u hu; simp at hu; rcases hu with rfl | rfl | rfl | rfl | rfl | rfl | rfl <;> first | rfl)
  have hM14 : Mem [] w w11 [⟨38, 7, (obj b6), 1, [.int .i64 (h.op), .string (sb (h.field)), .string (sb (h.text)), .int .i64 (h.edits), .int .i64 (h.exact), .int .u64 (h.lo), .int .u64 (h.hi)]⟩, ⟨25, 8, (obj b1), 1, (qR h v)⟩] := hM13
  have o23 : (Instr.storeAt 38 (pq b6) ((qH h))).run Try.prog w7 = .ok () w11 ∧ undef = undef := ⟨hr12, rfl⟩
  have hM24 : Mem [] w w11 [⟨38, 7, (obj b6), 1, [.int .i64 (h.op), .string (sb (h.field)), .string (sb (h.text)), .int .i64 (h.edits), .int .i64 (h.exact), .int .u64 (h.lo), .int .u64 (h.hi)]⟩] := hM14.sub (cc (cn (List.Sublist.refl _)))
  refine GoS.run [2] [.n, .n, .u (pq b1) (w2), .u (pq b6) (w7), .n, .n, .n, .n, .h (.int .i64 (h.op)), .n, .h (.string (sb (h.field))), .n, .h (.string (sb (h.text))), .n, .h (.int .i64 (h.edits)), .n, .h (.int .i64 (h.exact)), .n, .h (.int .u64 (h.lo)), .n, .h (.int .u64 (h.hi)), .n, .u (undef) (w11), .n] _ [.code (csub (cd Try.f21) [1,1])] [(2, pq b6)] w11 (by kernel_rfl) (.cons o15 (.cons hr8 (.cons o16 (.cons o17 (.cons o18 (.cons o19 (.cons o20 (.cons o21 (.cons o22 (.cons o23 .nil)))))))))) ?_
  have o25 : (Instr.loadAt 38 (pq b6)).run Try.prog w11 = .ok ((qH h)) w11 := c_loads (ys := [.int .i64 (h.op), .string (sb (h.field)), .string (sb (h.text)), .int .i64 (h.edits), .int .i64 (h.exact), .int .u64 (h.lo), .int .u64 (h.hi)]) aE38 (hM24.rd 0 rfl) (cel_obj b6 0) rfl (by intro j u hj; match j, hj with | 0, hj => exact hj | 1, hj => exact hj | 2, hj => exact hj | 3, hj => exact hj | 4, hj => exact hj | 5, hj => exact hj | 6, hj => exact hj | n + 7, hj => cases hj)
  refine GoS.retC (fn := Try.f21) (rs := [.cell 2 38]) [(qH h)] (v := ((qH h))) Try.func21 (by kernel_rfl) (ResC.cell (by kernel_rfl) o25 ResC.nil) rfl ?_
  rw [hR]
  exact ⟨rfl, hM24.sub (List.nil_sublist _)⟩


end Go.Proofs.Ytnhplkkbpmijdaa
