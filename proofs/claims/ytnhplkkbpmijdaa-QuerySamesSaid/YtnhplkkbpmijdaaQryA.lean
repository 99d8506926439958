/-
  The walks of Size, and of the reference: Parts, Deep.
-/
import Derived.Test.YtnhplkkbpmijdaaTokD
import Derived.Test.YtnhplkkbpmijdaaQryP
import Derived.Test.YtnhplkkbpmijdaaCell
import Derived.Test.YtnhplkkbpmijdaaHeld
namespace Go.Proofs.Ytnhplkkbpmijdaa
open Go Go.Gw Go.UtfP Go.TokP Go.QryP Go.RowKit
set_option linter.unusedVariables false
set_option linter.unusedSimpArgs false

theorem sT23 : SliceT Try.prog 23 25 8 96 (.agg #[.int .i64 0, .string (sb ([])), .string (sb ([])), .int .i64 0, .int .i64 0, .int .u64 0, .int .u64 0, .slice none 0 0]) := ⟨by kernel_rfl, ⟨_, rfl, by kernel_rfl, by kernel_rfl, by kernel_rfl⟩, rfl, by decide⟩
theorem pE23 : Plain Try.prog 23 := ⟨.slice 25, by kernel_rfl, (fun _ h => by cases h), (fun _ _ h => by cases h)⟩
theorem oT25 : ObjT Try.prog 25 8 (.agg #[.int .i64 0, .string (sb ([])), .string (sb ([])), .int .i64 0, .int .i64 0, .int .u64 0, .int .u64 0, .slice none 0 0]) := ⟨⟨_, rfl, by kernel_rfl, by kernel_rfl⟩, rfl⟩
theorem aE25 : Agged Try.prog 25 8 := ⟨⟨_, Try.underlying25, .inl ⟨_, rfl⟩⟩, _, rfl, by kernel_rfl⟩

set_option maxHeartbeats 1000000 in
theorem size_c_L (N : Nat) (ih : ∀ (q : Q), bulkQ q < N → ∀ {w : World} (h : Hd) (he : h = q.h) (v : Value) (hq : RdQ w q v) (hb : bulkQ q ≤ 1048576) , Calls Try.prog 10 #[(qA h v)] w (fun e w' => e = .returned (.tuple #[.int .i64 (((sizeQ q) : Nat) : Int), .int .i64 (((deepQ q) : Nat) : Int)]) ∧ Mem [] w w' [])) {w0 : World} (q : Q) (h : Hd) (he : h = q.h) (v : Value) (hq : RdQ w0 q v) (hb : bulkQ q ≤ 1048576) (L : List QN) (hr : Rd w0 8 v L.length (recs qnC L)) (hl : L.length = q.l.length) (hh : ∀ j, j < q.l.length → (L.getD j qz).h = (q.l.getD j q0).h) (hs : ∀ j, j < q.l.length → RdQ w0 (q.l.getD j q0) (L.getD j qz).parts) (hN : bulkQ q = N) (R : Ending → World → Prop) (hR : R = (fun e w' => e = .returned (.tuple #[.int .i64 (((sizeQ q) : Nat) : Int), .int .i64 (((deepQ q) : Nat) : Int)]) ∧ Mem [] w0 w' [])) : ∀ (M_ : Nat) (i : Nat) (w : World) (hi : i ≤ L.length) (hM : Mem [] w0 w []) (hN : L.length - i < M_), GoS Try.prog 10 R 30 [.code (csub (cd Try.f10) [1,1,0,1,0,0]), .inLoop (csub (cd Try.f10) [1,1,0,1,0,0]), .inBlock 0, .code (csub (cd Try.f10) [1,1,1])] [(2, .int .i64 (((sizeL (List.take i q.l) + 1) : Nat) : Int)), (3, .int .i64 (((deepL (List.take i q.l)) : Nat) : Int)), (9, v), (10, .int .i64 (((List.length L) : Nat) : Int)), (11, .int .i64 ((i : Nat) : Int))] w := by
  intro M_
  induction M_ with
  | zero => intro i w hi hM hN; exact absurd hN (Nat.not_lt_zero _)
  | succ M_ ih_ =>
    intro i w hi hM hN
    have hbl : bulkL q.l + q.h.field.length + q.h.text.length + 1 = bulkQ q := by cases q; rw [bulkQ_mk]; rfl
    have hln := bulk_len q.l
    have hst := sizeL_le (List.take i q.l)
    have hbt := bulk_take q.l i
    have hbt1 := bulk_take q.l (i + 1)
    refine GoS.run [2, 3, 9, 10, 11, 12] [.n, .n, .n, .n, .n] _ [.code (csub (cd Try.f10) [1,1,0,1,0,0,1,0]), .code (csub (cd Try.f10) [1,1,0,1,0,0,1,1]), .inLoop (csub (cd Try.f10) [1,1,0,1,0,0]), .inBlock 0, .code (csub (cd Try.f10) [1,1,1])] [(2, .int .i64 (((sizeL (List.take i q.l) + 1) : Nat) : Int)), (3, .int .i64 (((deepL (List.take i q.l)) : Nat) : Int)), (9, v), (10, .int .i64 (((List.length L) : Nat) : Int)), (11, .int .i64 ((i : Nat) : Int)), (12, .bool (decide (((i : Nat) : Int) < (((List.length L) : Nat) : Int))))] w (by kernel_rfl) .nil ?_
    refine GoS.cond (decide (((i : Nat) : Int) < (((List.length L) : Nat) : Int))) [.code (csub (cd Try.f10) [1,1,0,1,0,0,1,0,0]), .code (csub (cd Try.f10) [1,1,0,1,0,0,1,1]), .inLoop (csub (cd Try.f10) [1,1,0,1,0,0]), .inBlock 0, .code (csub (cd Try.f10) [1,1,1])] [.code (csub (cd Try.f10) [1,1,0,1,0,0,1,0,1]), .code (csub (cd Try.f10) [1,1,0,1,0,0,1,1]), .inLoop (csub (cd Try.f10) [1,1,0,1,0,0]), .inBlock 0, .code (csub (cd Try.f10) [1,1,1])] (by kernel_rfl) (fun h1 => ?_) (fun h1 => ?_)
    ·
      have h1p : ((i : Nat) : Int) < (((List.length L) : Nat) : Int) := of_decide_eq_true h1
      refine GoS.run [2, 3, 9, 10, 11] [.n] _ [.code (csub (cd Try.f10) [1,1,0,1,0,0,1,1]), .inLoop (csub (cd Try.f10) [1,1,0,1,0,0]), .inBlock 0, .code (csub (cd Try.f10) [1,1,1])] [(2, .int .i64 (((sizeL (List.take i q.l) + 1) : Nat) : Int)), (3, .int .i64 (((deepL (List.take i q.l)) : Nat) : Int)), (9, v), (10, .int .i64 (((List.length L) : Nat) : Int)), (11, .int .i64 ((i : Nat) : Int))] w (by kernel_rfl) .nil ?_
      obtain ⟨p3, hp4, hq5⟩ := rd_at (i := ((i : Nat) : Int)) sT23 (hr.kept0 hM.kept) i (by omega) (by first | omega | (dsimp only; omega))
      have o15 : (Instr.indexAt 23 (v) (.int .i64 ((i : Nat) : Int))).run Try.prog w = .ok (.pointer (some p3)) w := hq5 _ _
      have o16 : (Instr.loadAt 25 (.pointer (some p3))).run Try.prog w = .ok ((qA ((List.getD L i qz).h) ((List.getD L i qz).parts))) w := r_loads (f := qnC) (l := L) aE25 (hr.kept0 hM.kept) qnC_len hp4 (by first | omega | (dsimp only; omega)) qz
      obtain ⟨b6, w7, hr8, hM9⟩ := m_alloc oT25 hM
      have hM10 : Mem [] w0 w7 [⟨25, 8, (obj b6), 1, (qP 0 (.slice none 0 0))⟩] := hM9
      obtain ⟨w11, hr12, hM13⟩ := c_stores (ys := (qR ((List.getD L i qz).h) ((List.getD L i qz).parts))) aE25 hM10 0 rfl (cel_obj b6 0) rfl (by decide) (by intro u hu; simp at hu; rcases hu with rfl | rfl | rfl | rfl | rfl | rfl | rfl | rfl <;> first | rfl | exact ((hs i (by omega)).kept hM10.kept).one.1)
      have hM14 : Mem [] w0 w11 [⟨25, 8, (obj b6), 1, (qR ((List.getD L i qz).h) ((List.getD L i qz).parts))⟩] := hM13
      have o17 : (Instr.storeAt 25 (pq b6) ((qA ((List.getD L i qz).h) ((List.getD L i qz).parts)))).run Try.prog w7 = .ok () w11 ∧ undef = undef := ⟨hr12, rfl⟩
      have o18 : (Instr.loadAt 25 (pq b6)).run Try.prog w11 = .ok ((qA ((List.getD L i qz).h) ((List.getD L i qz).parts))) w11 := c_loads (ys := (qR ((List.getD L i qz).h) ((List.getD L i qz).parts))) aE25 (hM14.rd 0 rfl) (cel_obj b6 0) rfl (by intro j u hj; match j, hj with | 0, hj => exact hj | 1, hj => exact hj | 2, hj => exact hj | 3, hj => exact hj | 4, hj => exact hj | 5, hj => exact hj | 6, hj => exact hj | 7, hj => exact hj | n + 8, hj => cases hj)
      have hM19 : Mem [] w0 w11 [] := hM14.sub (cn (List.Sublist.refl _))
      refine GoS.run [2, 3, 9, 10, 11, 16] [.n, .n, .n, .n, .h (.pointer (some p3)), .h ((qA ((List.getD L i qz).h) ((List.getD L i qz).parts))), .u (pq b6) (w7), .u (undef) (w11), .n, .n, .n, .h ((qA ((List.getD L i qz).h) ((List.getD L i qz).parts)))] _ [.inRegion (cops (csub (cd Try.f10) [1,1,0,1,0,0,1,1,0,0,1,0])) [1,2,3,4,5,6], .code (csub (cd Try.f10) [1,1,0,1,0,0,1,1,0,0,1,1]), .inBlock 1, .code (csub (cd Try.f10) [1,1,0,1,0,0,1,1,1]), .inLoop (csub (cd Try.f10) [1,1,0,1,0,0]), .inBlock 0, .code (csub (cd Try.f10) [1,1,1])] [(2, .int .i64 (((sizeL (List.take i q.l) + 1) : Nat) : Int)), (3, .int .i64 (((deepL (List.take i q.l)) : Nat) : Int)), (9, v), (10, .int .i64 (((List.length L) : Nat) : Int)), (11, .int .i64 ((i : Nat) : Int)), (16, (qA ((List.getD L i qz).h) ((List.getD L i qz).parts)))] w11 (by kernel_rfl) (.cons o15 (.cons o16 (.cons hr8 (.cons o17 (.cons o18 .nil))))) ?_
      have hkb23 := bulk_kid (l := q.l) (i := i) (by omega)
      have hks24 := size_le (List.getD q.l i q0)
      have hbs25 := bulk_step (l := q.l) (i := i) (by omega)
      refine GoS.call [2, 3, 9, 10, 11] 10 #[(qA ((List.getD L i qz).h) ((List.getD L i qz).parts))] (some 17) [.inRegion (cops (csub (cd Try.f10) [1,1,0,1,0,0,1,1,0,0,1,0])) [2,3,4,5,6], .code (csub (cd Try.f10) [1,1,0,1,0,0,1,1,0,0,1,1]), .inBlock 1, .code (csub (cd Try.f10) [1,1,0,1,0,0,1,1,1]), .inLoop (csub (cd Try.f10) [1,1,0,1,0,0]), .inBlock 0, .code (csub (cd Try.f10) [1,1,1])] [(2, .int .i64 (((sizeL (List.take i q.l) + 1) : Nat) : Int)), (3, .int .i64 (((deepL (List.take i q.l)) : Nat) : Int)), (9, v), (10, .int .i64 (((List.length L) : Nat) : Int)), (11, .int .i64 ((i : Nat) : Int))] (by kernel_rfl) (ih (List.getD q.l i q0) (by omega) ((List.getD L i qz).h) (hh i (by omega)) ((List.getD L i qz).parts) ((hs i (by omega)).kept hM19.kept) (by omega)) ?_
      rintro _ w20 ⟨rfl, m21⟩
      refine ⟨_, rfl, ?_⟩
      have hM22 : Mem [] w0 w20 [] := Mem.join (R := []) hM19 m21
      have o26 : (binOp .add 3 (.int .i64 (((sizeL (List.take i q.l) + 1) : Nat) : Int)) (.int .i64 (((sizeQ (List.getD q.l i q0)) : Nat) : Int))).run Try.prog w20 = .ok (.int .i64 ((((sizeL (List.take i q.l) + 1) + (sizeQ (List.getD q.l i q0))) : Nat) : Int)) w20 := f_add (by rw [show (((sizeL (List.take i q.l) + 1) : Nat) : Int) + (((sizeQ (List.getD q.l i q0)) : Nat) : Int) = ((((sizeL (List.take i q.l) + 1) + (sizeQ (List.getD q.l i q0))) : Nat) : Int) by omega]; exact IntWalk.i64_in _ (by omega))
      have o27 : (Builtin.max_ #[3, 3] 3 #[.int .i64 (((deepL (List.take i q.l)) : Nat) : Int), .int .i64 (((deepQ (List.getD q.l i q0)) : Nat) : Int)]).run Try.prog w20 = .ok (.int .i64 (((max (deepL (List.take i q.l)) (deepQ (List.getD q.l i q0))) : Nat) : Int)) w20 := f_max (by split <;> omega)
      have o28 : (binOp .add 3 (.int .i64 ((i : Nat) : Int)) (.int .i64 1)).run Try.prog w20 = .ok (.int .i64 (((i + 1) : Nat) : Int)) w20 := f_add (by rw [show ((i : Nat) : Int) + 1 = (((i + 1) : Nat) : Int) by omega]; exact IntWalk.i64_in _ (by omega))
      refine GoS.run [2, 3, 9, 10, 11] [.n, .n, .n, .n, .n, .n, .n, .n, .n, .n, .h (.int .i64 ((((sizeL (List.take i q.l) + 1) + (sizeQ (List.getD q.l i q0))) : Nat) : Int)), .n, .n, .n, .n, .n, .h (.int .i64 (((max (deepL (List.take i q.l)) (deepQ (List.getD q.l i q0))) : Nat) : Int)), .n, .n, .n, .n, .h (.int .i64 (((i + 1) : Nat) : Int)), .n, .n, .n] _ [.code (csub (cd Try.f10) [1,1,0,1,0,0]), .inLoop (csub (cd Try.f10) [1,1,0,1,0,0]), .inBlock 0, .code (csub (cd Try.f10) [1,1,1])] [(2, .int .i64 ((((sizeL (List.take i q.l) + 1) + (sizeQ (List.getD q.l i q0))) : Nat) : Int)), (3, .int .i64 (((max (deepL (List.take i q.l)) (deepQ (List.getD q.l i q0))) : Nat) : Int)), (9, v), (10, .int .i64 (((List.length L) : Nat) : Int)), (11, .int .i64 (((i + 1) : Nat) : Int))] w20 (by kernel_rfl) (.cons o26 (.cons o27 (.cons o28 .nil))) ?_
      exact GoS.cast (by rw [show sizeL (List.take (i + 1) q.l) + 1 = (sizeL (List.take i q.l) + 1) + sizeQ (List.getD q.l i q0) by rw [size_step (show i < q.l.length by omega)]; omega, deep_step (show i < q.l.length by omega)]) (ih_ (i + 1) _ (by omega) (hM22.sub (List.nil_sublist _)) (by omega))
    ·
      have h1p : ¬ (((i : Nat) : Int) < (((List.length L) : Nat) : Int)) := of_decide_eq_false h1
      have o2 : (binOp .add 3 (.int .i64 (((deepL (List.take i q.l)) : Nat) : Int)) (.int .i64 1)).run Try.prog w = .ok (.int .i64 ((((deepL (List.take i q.l)) + 1) : Nat) : Int)) w := f_add (by rw [show (((deepL (List.take i q.l)) : Nat) : Int) + 1 = ((((deepL (List.take i q.l)) + 1) : Nat) : Int) by omega]; exact IntWalk.i64_in _ (by omega))
      refine GoS.run [2, 3] [.n, .n, .n, .n, .n, .h (.int .i64 ((((deepL (List.take i q.l)) + 1) : Nat) : Int)), .n, .n, .n] _ [.code (csub (cd Try.f10) [1,1,1,1])] [(2, .int .i64 (((sizeL (List.take i q.l) + 1) : Nat) : Int)), (3, .int .i64 ((((deepL (List.take i q.l)) + 1) : Nat) : Int))] w (by kernel_rfl) (.cons o2 .nil) ?_
      refine GoS.ret (fn := Try.f10) (v := (.tuple #[.int .i64 (((sizeL (List.take i q.l) + 1) : Nat) : Int), .int .i64 ((((deepL (List.take i q.l)) + 1) : Nat) : Int)])) Try.func10 (by kernel_rfl) ?_
      rw [hR]
      have e1 : List.take i q.l = q.l := tk_all (by omega)
      have e2 : sizeQ q = sizeL q.l + 1 := by cases q; rw [sizeQ_mk]; rfl
      have e3 : deepQ q = deepL q.l + 1 := by cases q; rw [deepQ_mk]; rfl
      exact ⟨by rw [e2, e3, e1], hM.sub (List.nil_sublist _)⟩

set_option maxHeartbeats 400000 in
theorem size_c_s (N : Nat) (ih : ∀ (q : Q), bulkQ q < N → ∀ {w : World} (h : Hd) (he : h = q.h) (v : Value) (hq : RdQ w q v) (hb : bulkQ q ≤ 1048576) , Calls Try.prog 10 #[(qA h v)] w (fun e w' => e = .returned (.tuple #[.int .i64 (((sizeQ q) : Nat) : Int), .int .i64 (((deepQ q) : Nat) : Int)]) ∧ Mem [] w w' [])) {w : World} (q : Q) (h : Hd) (he : h = q.h) (v : Value) (hq : RdQ w q v) (hb : bulkQ q ≤ 1048576) (hN : bulkQ q = N) :
    Calls Try.prog 10 #[(qA h v)] w (fun e w' => e = .returned (.tuple #[.int .i64 (((sizeQ q) : Nat) : Int), .int .i64 (((deepQ q) : Nat) : Int)]) ∧ Mem [] w w' []) := by
  obtain ⟨L, hr, hl, hh, hs⟩ := hq.inv
  have hbl : bulkL q.l + q.h.field.length + q.h.text.length + 1 = bulkQ q := by cases q; rw [bulkQ_mk]; rfl
  have hln := bulk_len q.l
  obtain ⟨R, hR⟩ : ∃ R : Ending → World → Prop, R = (fun e w' => e = .returned (.tuple #[.int .i64 (((sizeQ q) : Nat) : Int), .int .i64 (((deepQ q) : Nat) : Int)]) ∧ Mem [] w w' []) := ⟨_, rfl⟩
  rw [← hR]
  refine GoS.enter (n := 30) Try.func10 (by kernel_rfl) rfl [(0, (qA h v))] (by kernel_rfl) (by kernel_rfl) ?_
  have hM0 := Mem.start w
  obtain ⟨b1, w2, hr3, hM4⟩ := m_box (T := 25) (k := 8) (u := (qA h v)) rfl rfl hM0
  have hM5 : Mem [] w w2 [⟨25, 8, (obj b1), 1, (qR h v)⟩] := hM4
  have o6 : (Instr.box 25 ((qA h v))).run Try.prog w = .ok (pq b1) w2 := hr3
  have o7 : (Instr.loadAt 23 (.pointer (some (⟨b1, 7, none⟩)))).run Try.prog w2 = .ok (v) w2 := c_load pE23 (hM5.rd 0 rfl) (cel_obj b1 7) rfl
  have o8 : (Builtin.len_ #[23] 3 #[v]).run Try.prog w2 = .ok (.int .i64 (((List.length L) : Nat) : Int)) w2 := f_slen sT23 (hr.kept0 hM5.kept) 3 _
  have hM9 : Mem [] w w2 [] := hM5.sub (cn (List.Sublist.refl _))
  refine GoS.run [2, 3, 9, 10, 11] [.n, .n, .u (pq b1) (w2), .n, .n, .n, .n, .n, .n, .n, .n, .n, .n, .n, .h (v), .h (.int .i64 (((List.length L) : Nat) : Int)), .n, .n, .n, .n] _ [.code (csub (cd Try.f10) [1,1,0,1,0,0]), .inLoop (csub (cd Try.f10) [1,1,0,1,0,0]), .inBlock 0, .code (csub (cd Try.f10) [1,1,1])] [(2, .int .i64 1), (3, .int .i64 0), (9, v), (10, .int .i64 (((List.length L) : Nat) : Int)), (11, .int .i64 0)] w2 (by kernel_rfl) (.cons o6 (.cons o7 (.cons o8 .nil))) ?_
  exact size_c_L N ih q h he v hq hb L hr hl hh hs  hN R hR (L.length + 1) 0 w2 (Nat.zero_le _) ((hM9.sub (List.nil_sublist _))) (by omega)

theorem size_c_n : ∀ (N : Nat), ∀ (q : Q), bulkQ q ≤ N → ∀ {w : World} (h : Hd) (he : h = q.h) (v : Value) (hq : RdQ w q v) (hb : bulkQ q ≤ 1048576) , Calls Try.prog 10 #[(qA h v)] w (fun e w' => e = .returned (.tuple #[.int .i64 (((sizeQ q) : Nat) : Int), .int .i64 (((deepQ q) : Nat) : Int)]) ∧ Mem [] w w' []) := by
  intro N
  induction N with
  | zero => intro q hn; have := bulk_pos q; omega
  | succ N ihn => intro q hn w h he v hq hb; exact size_c_s (bulkQ q) (fun c hc => ihn c (by omega)) q h he v hq hb rfl

theorem size_c {w : World} (q : Q) (h : Hd) (he : h = q.h) (v : Value) (hq : RdQ w q v) (hb : bulkQ q ≤ 1048576)  :
    Calls Try.prog 10 #[(qA h v)] w (fun e w' => e = .returned (.tuple #[.int .i64 (((sizeQ q) : Nat) : Int), .int .i64 (((deepQ q) : Nat) : Int)]) ∧ Mem [] w w' []) := size_c_n (bulkQ q) q (Nat.le_refl _) h he v hq hb

set_option maxHeartbeats 1000000 in
theorem parts_c_L (N : Nat) (ih : ∀ (q : Q), bulkQ q < N → ∀ {w : World} (h : Hd) (he : h = q.h) (v : Value) (hq : RdQ w q v) (hb : bulkQ q ≤ 1048576) , Calls Try.prog 11 #[(qA h v)] w (fun e w' => e = .returned (.int .i64 (((sizeQ q) : Nat) : Int)) ∧ Mem [] w w' [])) {w0 : World} (q : Q) (h : Hd) (he : h = q.h) (v : Value) (hq : RdQ w0 q v) (hb : bulkQ q ≤ 1048576) (L : List QN) (hr : Rd w0 8 v L.length (recs qnC L)) (hl : L.length = q.l.length) (hh : ∀ j, j < q.l.length → (L.getD j qz).h = (q.l.getD j q0).h) (hs : ∀ j, j < q.l.length → RdQ w0 (q.l.getD j q0) (L.getD j qz).parts) (b : Nat) (hN : bulkQ q = N) (R : Ending → World → Prop) (hR : R = (fun e w' => e = .returned (.int .i64 (((sizeQ q) : Nat) : Int)) ∧ Mem [] w0 w' [])) : ∀ (M_ : Nat) (i : Nat) (w : World) (hi : i ≤ L.length) (hM : Mem [] w0 w [⟨25, 8, (obj b), 1, (qR h v)⟩]) (hN : L.length - i < M_), GoS Try.prog 11 R 21 [.code (csub (cd Try.f11) [1,1,0,1,0,0]), .inLoop (csub (cd Try.f11) [1,1,0,1,0,0]), .inBlock 0, .code (csub (cd Try.f11) [1,1,1])] [(1, pq b), (3, .int .i64 (((sizeL (List.take i q.l) + 1) : Nat) : Int)), (4, .int .i64 ((i : Nat) : Int))] w := by
  intro M_
  induction M_ with
  | zero => intro i w hi hM hN; exact absurd hN (Nat.not_lt_zero _)
  | succ M_ ih_ =>
    intro i w hi hM hN
    have hbl : bulkL q.l + q.h.field.length + q.h.text.length + 1 = bulkQ q := by cases q; rw [bulkQ_mk]; rfl
    have hln := bulk_len q.l
    have hst := sizeL_le (List.take i q.l)
    have hbt := bulk_take q.l i
    have hbt1 := bulk_take q.l (i + 1)
    have o1 : (Instr.loadAt 23 (.pointer (some (⟨b, 7, none⟩)))).run Try.prog w = .ok (v) w := c_load pE23 (hM.rd 0 rfl) (cel_obj b 7) rfl
    have o2 : (Builtin.len_ #[23] 3 #[v]).run Try.prog w = .ok (.int .i64 (((List.length L) : Nat) : Int)) w := f_slen sT23 (hr.kept0 hM.kept) 3 _
    refine GoS.run [1, 3, 4, 9] [.n, .n, .n, .n, .n, .h (v), .h (.int .i64 (((List.length L) : Nat) : Int)), .n, .n] _ [.code (csub (cd Try.f11) [1,1,0,1,0,0,0,1]), .code (csub (cd Try.f11) [1,1,0,1,0,0,1]), .inLoop (csub (cd Try.f11) [1,1,0,1,0,0]), .inBlock 0, .code (csub (cd Try.f11) [1,1,1])] [(1, pq b), (3, .int .i64 (((sizeL (List.take i q.l) + 1) : Nat) : Int)), (4, .int .i64 ((i : Nat) : Int)), (9, .bool (decide (((i : Nat) : Int) < (((List.length L) : Nat) : Int))))] w (by kernel_rfl) (.cons o1 (.cons o2 .nil)) ?_
    refine GoS.cond (decide (((i : Nat) : Int) < (((List.length L) : Nat) : Int))) [.code (csub (cd Try.f11) [1,1,0,1,0,0,0,1,0]), .code (csub (cd Try.f11) [1,1,0,1,0,0,1]), .inLoop (csub (cd Try.f11) [1,1,0,1,0,0]), .inBlock 0, .code (csub (cd Try.f11) [1,1,1])] [.code (csub (cd Try.f11) [1,1,0,1,0,0,0,1,1]), .code (csub (cd Try.f11) [1,1,0,1,0,0,1]), .inLoop (csub (cd Try.f11) [1,1,0,1,0,0]), .inBlock 0, .code (csub (cd Try.f11) [1,1,1])] (by kernel_rfl) (fun h3 => ?_) (fun h3 => ?_)
    ·
      have h3p : ((i : Nat) : Int) < (((List.length L) : Nat) : Int) := of_decide_eq_true h3
      refine GoS.run [1, 3, 4] [.n] _ [.code (csub (cd Try.f11) [1,1,0,1,0,0,1]), .inLoop (csub (cd Try.f11) [1,1,0,1,0,0]), .inBlock 0, .code (csub (cd Try.f11) [1,1,1])] [(1, pq b), (3, .int .i64 (((sizeL (List.take i q.l) + 1) : Nat) : Int)), (4, .int .i64 ((i : Nat) : Int))] w (by kernel_rfl) .nil ?_
      have o8 : (Instr.loadAt 23 (.pointer (some (⟨b, 7, none⟩)))).run Try.prog w = .ok (v) w := c_load pE23 (hM.rd 0 rfl) (cel_obj b 7) rfl
      obtain ⟨p5, hp6, hq7⟩ := rd_at (i := ((i : Nat) : Int)) sT23 (hr.kept0 hM.kept) i (by omega) (by first | omega | (dsimp only; omega))
      have o9 : (Instr.indexAt 23 (v) (.int .i64 ((i : Nat) : Int))).run Try.prog w = .ok (.pointer (some p5)) w := hq7 _ _
      have o10 : (Instr.loadAt 25 (.pointer (some p5))).run Try.prog w = .ok ((qA ((List.getD L i qz).h) ((List.getD L i qz).parts))) w := r_loads (f := qnC) (l := L) aE25 (hr.kept0 hM.kept) qnC_len hp6 (by first | omega | (dsimp only; omega)) qz
      refine GoS.run [1, 4, 12, 17] [.n, .n, .n, .n, .n, .h (v), .n, .h (.pointer (some p5)), .h ((qA ((List.getD L i qz).h) ((List.getD L i qz).parts)))] _ [.inRegion (cops (csub (cd Try.f11) [1,1,0,1,0,0,1,0,0])) [6,7,8], .inBlock 1, .code (csub (cd Try.f11) [1,1,0,1,0,0,1,1]), .inLoop (csub (cd Try.f11) [1,1,0,1,0,0]), .inBlock 0, .code (csub (cd Try.f11) [1,1,1])] [(1, pq b), (4, .int .i64 ((i : Nat) : Int)), (12, .int .i64 (((sizeL (List.take i q.l) + 1) : Nat) : Int)), (17, (qA ((List.getD L i qz).h) ((List.getD L i qz).parts)))] w (by kernel_rfl) (.cons o8 (.cons o9 (.cons o10 .nil))) ?_
      have hkb14 := bulk_kid (l := q.l) (i := i) (by omega)
      have hks15 := size_le (List.getD q.l i q0)
      have hbs16 := bulk_step (l := q.l) (i := i) (by omega)
      refine GoS.call [1, 4, 12] 11 #[(qA ((List.getD L i qz).h) ((List.getD L i qz).parts))] (some 18) [.inRegion (cops (csub (cd Try.f11) [1,1,0,1,0,0,1,0,0])) [7,8], .inBlock 1, .code (csub (cd Try.f11) [1,1,0,1,0,0,1,1]), .inLoop (csub (cd Try.f11) [1,1,0,1,0,0]), .inBlock 0, .code (csub (cd Try.f11) [1,1,1])] [(1, pq b), (4, .int .i64 ((i : Nat) : Int)), (12, .int .i64 (((sizeL (List.take i q.l) + 1) : Nat) : Int))] (by kernel_rfl) (ih (List.getD q.l i q0) (by omega) ((List.getD L i qz).h) (hh i (by omega)) ((List.getD L i qz).parts) ((hs i (by omega)).kept hM.kept) (by omega)) ?_
      rintro _ w11 ⟨rfl, m12⟩
      refine ⟨_, rfl, ?_⟩
      have hM13 : Mem [] w0 w11 [⟨25, 8, (obj b), 1, (qR h v)⟩] := Mem.join (R := []) hM m12
      have o17 : (binOp .add 3 (.int .i64 (((sizeL (List.take i q.l) + 1) : Nat) : Int)) (.int .i64 (((sizeQ (List.getD q.l i q0)) : Nat) : Int))).run Try.prog w11 = .ok (.int .i64 ((((sizeL (List.take i q.l) + 1) + (sizeQ (List.getD q.l i q0))) : Nat) : Int)) w11 := f_add (by rw [show (((sizeL (List.take i q.l) + 1) : Nat) : Int) + (((sizeQ (List.getD q.l i q0)) : Nat) : Int) = ((((sizeL (List.take i q.l) + 1) + (sizeQ (List.getD q.l i q0))) : Nat) : Int) by omega]; exact IntWalk.i64_in _ (by omega))
      have o18 : (binOp .add 3 (.int .i64 ((i : Nat) : Int)) (.int .i64 1)).run Try.prog w11 = .ok (.int .i64 (((i + 1) : Nat) : Int)) w11 := f_add (by rw [show ((i : Nat) : Int) + 1 = (((i + 1) : Nat) : Int) by omega]; exact IntWalk.i64_in _ (by omega))
      refine GoS.run [1, 3, 4] [.h (.int .i64 ((((sizeL (List.take i q.l) + 1) + (sizeQ (List.getD q.l i q0))) : Nat) : Int)), .n, .n, .n, .n, .n, .h (.int .i64 (((i + 1) : Nat) : Int)), .n, .n, .n] _ [.code (csub (cd Try.f11) [1,1,0,1,0,0]), .inLoop (csub (cd Try.f11) [1,1,0,1,0,0]), .inBlock 0, .code (csub (cd Try.f11) [1,1,1])] [(1, pq b), (3, .int .i64 ((((sizeL (List.take i q.l) + 1) + (sizeQ (List.getD q.l i q0))) : Nat) : Int)), (4, .int .i64 (((i + 1) : Nat) : Int))] w11 (by kernel_rfl) (.cons o17 (.cons o18 .nil)) ?_
      exact GoS.cast (by rw [show sizeL (List.take (i + 1) q.l) + 1 = (sizeL (List.take i q.l) + 1) + sizeQ (List.getD q.l i q0) by rw [size_step (show i < q.l.length by omega)]; omega]) (ih_ (i + 1) _ (by omega) (hM13.sub (cc (List.nil_sublist _))) (by omega))
    ·
      have h3p : ¬ (((i : Nat) : Int) < (((List.length L) : Nat) : Int)) := of_decide_eq_false h3
      have hM4 : Mem [] w0 w [] := hM.sub (cn (List.Sublist.refl _))
      refine GoS.run [2] [.n, .n, .n, .n, .n, .n] _ [.code (csub (cd Try.f11) [1,1,1,1])] [(2, .int .i64 (((sizeL (List.take i q.l) + 1) : Nat) : Int))] w (by kernel_rfl) .nil ?_
      refine GoS.ret (fn := Try.f11) (v := (.int .i64 (((sizeL (List.take i q.l) + 1) : Nat) : Int))) Try.func11 (by kernel_rfl) ?_
      rw [hR]
      have e1 : List.take i q.l = q.l := tk_all (by omega)
      have e2 : sizeQ q = sizeL q.l + 1 := by cases q; rw [sizeQ_mk]; rfl
      exact ⟨by rw [e2, e1], hM4.sub (List.nil_sublist _)⟩

set_option maxHeartbeats 400000 in
theorem parts_c_s (N : Nat) (ih : ∀ (q : Q), bulkQ q < N → ∀ {w : World} (h : Hd) (he : h = q.h) (v : Value) (hq : RdQ w q v) (hb : bulkQ q ≤ 1048576) , Calls Try.prog 11 #[(qA h v)] w (fun e w' => e = .returned (.int .i64 (((sizeQ q) : Nat) : Int)) ∧ Mem [] w w' [])) {w : World} (q : Q) (h : Hd) (he : h = q.h) (v : Value) (hq : RdQ w q v) (hb : bulkQ q ≤ 1048576) (hN : bulkQ q = N) :
    Calls Try.prog 11 #[(qA h v)] w (fun e w' => e = .returned (.int .i64 (((sizeQ q) : Nat) : Int)) ∧ Mem [] w w' []) := by
  obtain ⟨L, hr, hl, hh, hs⟩ := hq.inv
  have hbl : bulkL q.l + q.h.field.length + q.h.text.length + 1 = bulkQ q := by cases q; rw [bulkQ_mk]; rfl
  have hln := bulk_len q.l
  obtain ⟨R, hR⟩ : ∃ R : Ending → World → Prop, R = (fun e w' => e = .returned (.int .i64 (((sizeQ q) : Nat) : Int)) ∧ Mem [] w w' []) := ⟨_, rfl⟩
  rw [← hR]
  refine GoS.enter (n := 21) Try.func11 (by kernel_rfl) rfl [(0, (qA h v))] (by kernel_rfl) (by kernel_rfl) ?_
  have hM0 := Mem.start w
  obtain ⟨b1, w2, hr3, hM4⟩ := m_box (T := 25) (k := 8) (u := (qA h v)) rfl rfl hM0
  have hM5 : Mem [] w w2 [⟨25, 8, (obj b1), 1, (qR h v)⟩] := hM4
  have o6 : (Instr.box 25 ((qA h v))).run Try.prog w = .ok (pq b1) w2 := hr3
  refine GoS.run [1, 3, 4] [.n, .n, .u (pq b1) (w2), .n, .n, .n, .n, .n, .n, .n, .n, .n, .n, .n, .n, .n] _ [.code (csub (cd Try.f11) [1,1,0,1,0,0]), .inLoop (csub (cd Try.f11) [1,1,0,1,0,0]), .inBlock 0, .code (csub (cd Try.f11) [1,1,1])] [(1, pq b1), (3, .int .i64 1), (4, .int .i64 0)] w2 (by kernel_rfl) (.cons o6 .nil) ?_
  exact parts_c_L N ih q h he v hq hb L hr hl hh hs b1  hN R hR (L.length + 1) 0 w2 (Nat.zero_le _) ((hM5.sub (cc (List.nil_sublist _)))) (by omega)

theorem parts_c_n : ∀ (N : Nat), ∀ (q : Q), bulkQ q ≤ N → ∀ {w : World} (h : Hd) (he : h = q.h) (v : Value) (hq : RdQ w q v) (hb : bulkQ q ≤ 1048576) , Calls Try.prog 11 #[(qA h v)] w (fun e w' => e = .returned (.int .i64 (((sizeQ q) : Nat) : Int)) ∧ Mem [] w w' []) := by
  intro N
  induction N with
  | zero => intro q hn; have := bulk_pos q; omega
  | succ N ihn => intro q hn w h he v hq hb; exact parts_c_s (bulkQ q) (fun c hc => ihn c (by omega)) q h he v hq hb rfl

theorem parts_c {w : World} (q : Q) (h : Hd) (he : h = q.h) (v : Value) (hq : RdQ w q v) (hb : bulkQ q ≤ 1048576)  :
    Calls Try.prog 11 #[(qA h v)] w (fun e w' => e = .returned (.int .i64 (((sizeQ q) : Nat) : Int)) ∧ Mem [] w w' []) := parts_c_n (bulkQ q) q (Nat.le_refl _) h he v hq hb

set_option maxHeartbeats 1000000 in
theorem deep_c_L (N : Nat) (ih : ∀ (q : Q), bulkQ q < N → ∀ {w : World} (h : Hd) (he : h = q.h) (v : Value) (hq : RdQ w q v) (hb : bulkQ q ≤ 1048576) , Calls Try.prog 12 #[(qA h v)] w (fun e w' => e = .returned (.int .i64 (((deepQ q) : Nat) : Int)) ∧ Mem [] w w' [])) {w0 : World} (q : Q) (h : Hd) (he : h = q.h) (v : Value) (hq : RdQ w0 q v) (hb : bulkQ q ≤ 1048576) (L : List QN) (hr : Rd w0 8 v L.length (recs qnC L)) (hl : L.length = q.l.length) (hh : ∀ j, j < q.l.length → (L.getD j qz).h = (q.l.getD j q0).h) (hs : ∀ j, j < q.l.length → RdQ w0 (q.l.getD j q0) (L.getD j qz).parts) (b : Nat) (hN : bulkQ q = N) (R : Ending → World → Prop) (hR : R = (fun e w' => e = .returned (.int .i64 (((deepQ q) : Nat) : Int)) ∧ Mem [] w0 w' [])) : ∀ (M_ : Nat) (i : Nat) (w : World) (hi : i ≤ L.length) (hM : Mem [] w0 w [⟨25, 8, (obj b), 1, (qR h v)⟩]) (hN : L.length - i < M_), GoS Try.prog 12 R 25 [.code (csub (cd Try.f12) [1,1,0,1,0,0]), .inLoop (csub (cd Try.f12) [1,1,0,1,0,0]), .inBlock 0, .code (csub (cd Try.f12) [1,1,1])] [(1, pq b), (3, .int .i64 (((deepL (List.take i q.l)) : Nat) : Int)), (4, .int .i64 ((i : Nat) : Int))] w := by
  intro M_
  induction M_ with
  | zero => intro i w hi hM hN; exact absurd hN (Nat.not_lt_zero _)
  | succ M_ ih_ =>
    intro i w hi hM hN
    have hbl : bulkL q.l + q.h.field.length + q.h.text.length + 1 = bulkQ q := by cases q; rw [bulkQ_mk]; rfl
    have hln := bulk_len q.l
    have hst := sizeL_le (List.take i q.l)
    have hbt := bulk_take q.l i
    have hbt1 := bulk_take q.l (i + 1)
    have o1 : (Instr.loadAt 23 (.pointer (some (⟨b, 7, none⟩)))).run Try.prog w = .ok (v) w := c_load pE23 (hM.rd 0 rfl) (cel_obj b 7) rfl
    have o2 : (Builtin.len_ #[23] 3 #[v]).run Try.prog w = .ok (.int .i64 (((List.length L) : Nat) : Int)) w := f_slen sT23 (hr.kept0 hM.kept) 3 _
    refine GoS.run [1, 3, 4, 10] [.n, .n, .n, .n, .n, .h (v), .h (.int .i64 (((List.length L) : Nat) : Int)), .n, .n] _ [.code (csub (cd Try.f12) [1,1,0,1,0,0,0,1]), .code (csub (cd Try.f12) [1,1,0,1,0,0,1]), .inLoop (csub (cd Try.f12) [1,1,0,1,0,0]), .inBlock 0, .code (csub (cd Try.f12) [1,1,1])] [(1, pq b), (3, .int .i64 (((deepL (List.take i q.l)) : Nat) : Int)), (4, .int .i64 ((i : Nat) : Int)), (10, .bool (decide (((i : Nat) : Int) < (((List.length L) : Nat) : Int))))] w (by kernel_rfl) (.cons o1 (.cons o2 .nil)) ?_
    refine GoS.cond (decide (((i : Nat) : Int) < (((List.length L) : Nat) : Int))) [.code (csub (cd Try.f12) [1,1,0,1,0,0,0,1,0]), .code (csub (cd Try.f12) [1,1,0,1,0,0,1]), .inLoop (csub (cd Try.f12) [1,1,0,1,0,0]), .inBlock 0, .code (csub (cd Try.f12) [1,1,1])] [.code (csub (cd Try.f12) [1,1,0,1,0,0,0,1,1]), .code (csub (cd Try.f12) [1,1,0,1,0,0,1]), .inLoop (csub (cd Try.f12) [1,1,0,1,0,0]), .inBlock 0, .code (csub (cd Try.f12) [1,1,1])] (by kernel_rfl) (fun h3 => ?_) (fun h3 => ?_)
    ·
      have h3p : ((i : Nat) : Int) < (((List.length L) : Nat) : Int) := of_decide_eq_true h3
      refine GoS.run [1, 3, 4] [.n] _ [.code (csub (cd Try.f12) [1,1,0,1,0,0,1]), .inLoop (csub (cd Try.f12) [1,1,0,1,0,0]), .inBlock 0, .code (csub (cd Try.f12) [1,1,1])] [(1, pq b), (3, .int .i64 (((deepL (List.take i q.l)) : Nat) : Int)), (4, .int .i64 ((i : Nat) : Int))] w (by kernel_rfl) .nil ?_
      have o9 : (Instr.loadAt 23 (.pointer (some (⟨b, 7, none⟩)))).run Try.prog w = .ok (v) w := c_load pE23 (hM.rd 0 rfl) (cel_obj b 7) rfl
      obtain ⟨p6, hp7, hq8⟩ := rd_at (i := ((i : Nat) : Int)) sT23 (hr.kept0 hM.kept) i (by omega) (by first | omega | (dsimp only; omega))
      have o10 : (Instr.indexAt 23 (v) (.int .i64 ((i : Nat) : Int))).run Try.prog w = .ok (.pointer (some p6)) w := hq8 _ _
      have o11 : (Instr.loadAt 25 (.pointer (some p6))).run Try.prog w = .ok ((qA ((List.getD L i qz).h) ((List.getD L i qz).parts))) w := r_loads (f := qnC) (l := L) aE25 (hr.kept0 hM.kept) qnC_len hp7 (by first | omega | (dsimp only; omega)) qz
      refine GoS.run [1, 3, 4, 17] [.n, .n, .n, .n, .n, .h (v), .n, .h (.pointer (some p6)), .h ((qA ((List.getD L i qz).h) ((List.getD L i qz).parts)))] _ [.inRegion (cops (csub (cd Try.f12) [1,1,0,1,0,0,1,0,0,0])) [5,6], .code (csub (cd Try.f12) [1,1,0,1,0,0,1,0,0,1]), .inBlock 1, .code (csub (cd Try.f12) [1,1,0,1,0,0,1,1]), .inLoop (csub (cd Try.f12) [1,1,0,1,0,0]), .inBlock 0, .code (csub (cd Try.f12) [1,1,1])] [(1, pq b), (3, .int .i64 (((deepL (List.take i q.l)) : Nat) : Int)), (4, .int .i64 ((i : Nat) : Int)), (17, (qA ((List.getD L i qz).h) ((List.getD L i qz).parts)))] w (by kernel_rfl) (.cons o9 (.cons o10 (.cons o11 .nil))) ?_
      have hkb15 := bulk_kid (l := q.l) (i := i) (by omega)
      have hks16 := size_le (List.getD q.l i q0)
      have hbs17 := bulk_step (l := q.l) (i := i) (by omega)
      refine GoS.call [1, 3, 4] 12 #[(qA ((List.getD L i qz).h) ((List.getD L i qz).parts))] (some 18) [.inRegion (cops (csub (cd Try.f12) [1,1,0,1,0,0,1,0,0,0])) [6], .code (csub (cd Try.f12) [1,1,0,1,0,0,1,0,0,1]), .inBlock 1, .code (csub (cd Try.f12) [1,1,0,1,0,0,1,1]), .inLoop (csub (cd Try.f12) [1,1,0,1,0,0]), .inBlock 0, .code (csub (cd Try.f12) [1,1,1])] [(1, pq b), (3, .int .i64 (((deepL (List.take i q.l)) : Nat) : Int)), (4, .int .i64 ((i : Nat) : Int))] (by kernel_rfl) (ih (List.getD q.l i q0) (by omega) ((List.getD L i qz).h) (hh i (by omega)) ((List.getD L i qz).parts) ((hs i (by omega)).kept hM.kept) (by omega)) ?_
      rintro _ w12 ⟨rfl, m13⟩
      refine ⟨_, rfl, ?_⟩
      have hM14 : Mem [] w0 w12 [⟨25, 8, (obj b), 1, (qR h v)⟩] := Mem.join (R := []) hM m13
      refine GoS.run [1, 3, 4, 5, 21] [.n, .n, .n, .n, .n, .n, .n, .n] _ [.code (csub (cd Try.f12) [1,1,0,1,0,0,1,0,0,1,1]), .inBlock 1, .code (csub (cd Try.f12) [1,1,0,1,0,0,1,1]), .inLoop (csub (cd Try.f12) [1,1,0,1,0,0]), .inBlock 0, .code (csub (cd Try.f12) [1,1,1])] [(1, pq b), (3, .int .i64 (((deepL (List.take i q.l)) : Nat) : Int)), (4, .int .i64 ((i : Nat) : Int)), (5, .int .i64 (((deepQ (List.getD q.l i q0)) : Nat) : Int)), (21, .bool (decide ((((deepQ (List.getD q.l i q0)) : Nat) : Int) > (((deepL (List.take i q.l)) : Nat) : Int))))] w12 (by kernel_rfl) .nil ?_
      refine GoS.cond (decide ((((deepQ (List.getD q.l i q0)) : Nat) : Int) > (((deepL (List.take i q.l)) : Nat) : Int))) [.code (csub (cd Try.f12) [1,1,0,1,0,0,1,0,0,1,1,0]), .inBlock 1, .code (csub (cd Try.f12) [1,1,0,1,0,0,1,1]), .inLoop (csub (cd Try.f12) [1,1,0,1,0,0]), .inBlock 0, .code (csub (cd Try.f12) [1,1,1])] [.code (csub (cd Try.f12) [1,1,0,1,0,0,1,0,0,1,1,1]), .inBlock 1, .code (csub (cd Try.f12) [1,1,0,1,0,0,1,1]), .inLoop (csub (cd Try.f12) [1,1,0,1,0,0]), .inBlock 0, .code (csub (cd Try.f12) [1,1,1])] (by kernel_rfl) (fun h18 => ?_) (fun h18 => ?_)
      ·
        have h18p : (((deepQ (List.getD q.l i q0)) : Nat) : Int) > (((deepL (List.take i q.l)) : Nat) : Int) := of_decide_eq_true h18
        refine GoS.run [1, 3, 4] [.n, .n, .n, .n] _ [.inBlock 1, .code (csub (cd Try.f12) [1,1,0,1,0,0,1,1]), .inLoop (csub (cd Try.f12) [1,1,0,1,0,0]), .inBlock 0, .code (csub (cd Try.f12) [1,1,1])] [(1, pq b), (3, .int .i64 (((deepQ (List.getD q.l i q0)) : Nat) : Int)), (4, .int .i64 ((i : Nat) : Int))] w12 (by kernel_rfl) .nil ?_
        have o19 : (binOp .add 3 (.int .i64 ((i : Nat) : Int)) (.int .i64 1)).run Try.prog w12 = .ok (.int .i64 (((i + 1) : Nat) : Int)) w12 := f_add (by rw [show ((i : Nat) : Int) + 1 = (((i + 1) : Nat) : Int) by omega]; exact IntWalk.i64_in _ (by omega))
        refine GoS.run [1, 3, 4] [.n, .n, .n, .h (.int .i64 (((i + 1) : Nat) : Int)), .n, .n, .n] _ [.code (csub (cd Try.f12) [1,1,0,1,0,0]), .inLoop (csub (cd Try.f12) [1,1,0,1,0,0]), .inBlock 0, .code (csub (cd Try.f12) [1,1,1])] [(1, pq b), (3, .int .i64 (((deepQ (List.getD q.l i q0)) : Nat) : Int)), (4, .int .i64 (((i + 1) : Nat) : Int))] w12 (by kernel_rfl) (.cons o19 .nil) ?_
        exact GoS.cast (by rw [deep_step (show i < q.l.length by omega), Nat.max_eq_right (by omega)]) (ih_ (i + 1) _ (by omega) (hM14.sub (cc (List.nil_sublist _))) (by omega))
      ·
        have h18p : ¬ ((((deepQ (List.getD q.l i q0)) : Nat) : Int) > (((deepL (List.take i q.l)) : Nat) : Int)) := of_decide_eq_false h18
        refine GoS.run [1, 3, 4] [.n] _ [.inBlock 1, .code (csub (cd Try.f12) [1,1,0,1,0,0,1,1]), .inLoop (csub (cd Try.f12) [1,1,0,1,0,0]), .inBlock 0, .code (csub (cd Try.f12) [1,1,1])] [(1, pq b), (3, .int .i64 (((deepL (List.take i q.l)) : Nat) : Int)), (4, .int .i64 ((i : Nat) : Int))] w12 (by kernel_rfl) .nil ?_
        have o20 : (binOp .add 3 (.int .i64 ((i : Nat) : Int)) (.int .i64 1)).run Try.prog w12 = .ok (.int .i64 (((i + 1) : Nat) : Int)) w12 := f_add (by rw [show ((i : Nat) : Int) + 1 = (((i + 1) : Nat) : Int) by omega]; exact IntWalk.i64_in _ (by omega))
        refine GoS.run [1, 3, 4] [.n, .n, .n, .h (.int .i64 (((i + 1) : Nat) : Int)), .n, .n, .n] _ [.code (csub (cd Try.f12) [1,1,0,1,0,0]), .inLoop (csub (cd Try.f12) [1,1,0,1,0,0]), .inBlock 0, .code (csub (cd Try.f12) [1,1,1])] [(1, pq b), (3, .int .i64 (((deepL (List.take i q.l)) : Nat) : Int)), (4, .int .i64 (((i + 1) : Nat) : Int))] w12 (by kernel_rfl) (.cons o20 .nil) ?_
        exact GoS.cast (by rw [deep_step (show i < q.l.length by omega), Nat.max_eq_left (by omega)]) (ih_ (i + 1) _ (by omega) (hM14.sub (cc (List.nil_sublist _))) (by omega))
    ·
      have h3p : ¬ (((i : Nat) : Int) < (((List.length L) : Nat) : Int)) := of_decide_eq_false h3
      have o4 : (binOp .add 3 (.int .i64 (((deepL (List.take i q.l)) : Nat) : Int)) (.int .i64 1)).run Try.prog w = .ok (.int .i64 ((((deepL (List.take i q.l)) + 1) : Nat) : Int)) w := f_add (by rw [show (((deepL (List.take i q.l)) : Nat) : Int) + 1 = ((((deepL (List.take i q.l)) + 1) : Nat) : Int) by omega]; exact IntWalk.i64_in _ (by omega))
      have hM5 : Mem [] w0 w [] := hM.sub (cn (List.Sublist.refl _))
      refine GoS.run [2] [.n, .n, .n, .n, .h (.int .i64 ((((deepL (List.take i q.l)) + 1) : Nat) : Int)), .n, .n] _ [.code (csub (cd Try.f12) [1,1,1,1])] [(2, .int .i64 ((((deepL (List.take i q.l)) + 1) : Nat) : Int))] w (by kernel_rfl) (.cons o4 .nil) ?_
      refine GoS.ret (fn := Try.f12) (v := (.int .i64 ((((deepL (List.take i q.l)) + 1) : Nat) : Int))) Try.func12 (by kernel_rfl) ?_
      rw [hR]
      have e1 : List.take i q.l = q.l := tk_all (by omega)
      have e3 : deepQ q = deepL q.l + 1 := by cases q; rw [deepQ_mk]; rfl
      exact ⟨by rw [e3, e1], hM5.sub (List.nil_sublist _)⟩

set_option maxHeartbeats 400000 in
theorem deep_c_s (N : Nat) (ih : ∀ (q : Q), bulkQ q < N → ∀ {w : World} (h : Hd) (he : h = q.h) (v : Value) (hq : RdQ w q v) (hb : bulkQ q ≤ 1048576) , Calls Try.prog 12 #[(qA h v)] w (fun e w' => e = .returned (.int .i64 (((deepQ q) : Nat) : Int)) ∧ Mem [] w w' [])) {w : World} (q : Q) (h : Hd) (he : h = q.h) (v : Value) (hq : RdQ w q v) (hb : bulkQ q ≤ 1048576) (hN : bulkQ q = N) :
    Calls Try.prog 12 #[(qA h v)] w (fun e w' => e = .returned (.int .i64 (((deepQ q) : Nat) : Int)) ∧ Mem [] w w' []) := by
  obtain ⟨L, hr, hl, hh, hs⟩ := hq.inv
  have hbl : bulkL q.l + q.h.field.length + q.h.text.length + 1 = bulkQ q := by cases q; rw [bulkQ_mk]; rfl
  have hln := bulk_len q.l
  obtain ⟨R, hR⟩ : ∃ R : Ending → World → Prop, R = (fun e w' => e = .returned (.int .i64 (((deepQ q) : Nat) : Int)) ∧ Mem [] w w' []) := ⟨_, rfl⟩
  rw [← hR]
  refine GoS.enter (n := 25) Try.func12 (by kernel_rfl) rfl [(0, (qA h v))] (by kernel_rfl) (by kernel_rfl) ?_
  have hM0 := Mem.start w
  obtain ⟨b1, w2, hr3, hM4⟩ := m_box (T := 25) (k := 8) (u := (qA h v)) rfl rfl hM0
  have hM5 : Mem [] w w2 [⟨25, 8, (obj b1), 1, (qR h v)⟩] := hM4
  have o6 : (Instr.box 25 ((qA h v))).run Try.prog w = .ok (pq b1) w2 := hr3
  refine GoS.run [1, 3, 4] [.n, .n, .u (pq b1) (w2), .n, .n, .n, .n, .n, .n, .n, .n, .n, .n, .n, .n, .n] _ [.code (csub (cd Try.f12) [1,1,0,1,0,0]), .inLoop (csub (cd Try.f12) [1,1,0,1,0,0]), .inBlock 0, .code (csub (cd Try.f12) [1,1,1])] [(1, pq b1), (3, .int .i64 0), (4, .int .i64 0)] w2 (by kernel_rfl) (.cons o6 .nil) ?_
  exact deep_c_L N ih q h he v hq hb L hr hl hh hs b1  hN R hR (L.length + 1) 0 w2 (Nat.zero_le _) ((hM5.sub (cc (List.nil_sublist _)))) (by omega)

theorem deep_c_n : ∀ (N : Nat), ∀ (q : Q), bulkQ q ≤ N → ∀ {w : World} (h : Hd) (he : h = q.h) (v : Value) (hq : RdQ w q v) (hb : bulkQ q ≤ 1048576) , Calls Try.prog 12 #[(qA h v)] w (fun e w' => e = .returned (.int .i64 (((deepQ q) : Nat) : Int)) ∧ Mem [] w w' []) := by
  intro N
  induction N with
  | zero => intro q hn; have := bulk_pos q; omega
  | succ N ihn => intro q hn w h he v hq hb; exact deep_c_s (bulkQ q) (fun c hc => ihn c (by omega)) q h he v hq hb rfl

theorem deep_c {w : World} (q : Q) (h : Hd) (he : h = q.h) (v : Value) (hq : RdQ w q v) (hb : bulkQ q ≤ 1048576)  :
    Calls Try.prog 12 #[(qA h v)] w (fun e w' => e = .returned (.int .i64 (((deepQ q) : Nat) : Int)) ∧ Mem [] w w' []) := deep_c_n (bulkQ q) q (Nat.le_refl _) h he v hq hb


end Go.Proofs.Ytnhplkkbpmijdaa
