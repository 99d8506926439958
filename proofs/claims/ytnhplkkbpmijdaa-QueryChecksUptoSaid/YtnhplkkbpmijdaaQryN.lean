/-
  The walk of QueryChecks.
-/
import Derived.Test.YtnhplkkbpmijdaaQryM
namespace Go.Proofs.Ytnhplkkbpmijdaa
open Go Go.Gw Go.UtfP Go.TokP Go.QryP Go.RowKit
set_option linter.unusedVariables false
set_option linter.unusedSimpArgs false


set_option maxHeartbeats 2000000 in
theorem lchecks_c {w : World} (q : Q) (h : Hd) (he : h = q.h) (v : Value) (hq : RdQ w q v) (hb : bulkQ q ≤ 1048576) :
    Calls Try.prog 3 #[(qA h v)] w (fun e w' => e = .returned (.bool true) ∧ Below w.heap.size w w') := by
  obtain ⟨L, hr, hl, hh, hs⟩ := hq.inv
  have hbl : bulkL q.l + q.h.field.length + q.h.text.length + 1 = bulkQ q := by cases q; rw [bulkQ_mk]; rfl
  have hln := bulk_len q.l
  obtain ⟨R, hR⟩ : ∃ R : Ending → World → Prop, R = (fun e w' => e = .returned (.bool true) ∧ Below w.heap.size w w') := ⟨_, rfl⟩
  rw [← hR]
  refine GoS.enter (n := 42) Try.func3 (by kernel_rfl) rfl [(0, (qA h v))] (by kernel_rfl) (by kernel_rfl) ?_
  have hM0 := Mem.start w
  obtain ⟨b1, w2, hr3, hM4⟩ := m_box (T := 25) (k := 8) (u := (qA h v)) rfl rfl hM0
  have hM5 : Mem [] w w2 [⟨25, 8, (obj b1), 1, (qR h v)⟩] := hM4
  have o6 : (Instr.box 25 ((qA h v))).run Try.prog w = .ok (pq b1) w2 := hr3
  have o7 : (Instr.loadAt 25 (pq b1)).run Try.prog w2 = .ok ((qA h v)) w2 := c_loads (ys := (qR h v)) aE25 (hM5.rd 0 rfl) (cel_obj b1 0) rfl (by intro j u hj; match j, hj with | 0, hj => exact hj | 1, hj => exact hj | 2, hj => exact hj | 3, hj => exact hj | 4, hj => exact hj | 5, hj => exact hj | 6, hj => exact hj | 7, hj => exact hj | n + 8, hj => cases hj)
  refine GoS.run [1, 6] [.n, .n, .u (pq b1) (w2), .n, .n, .n, .n, .n, .h ((qA h v))] _ [.inRegion (cops (csub (cd Try.f3) [1,0,0])) [1,2], .code (csub (cd Try.f3) [1,0,1]), .code (csub (cd Try.f3) [1,1])] [(1, pq b1), (6, (qA h v))] w2 (by kernel_rfl) (.cons o6 (.cons o7 .nil)) ?_
  refine GoS.call [1] 7 #[(qA h v)] (some 7) [.inRegion (cops (csub (cd Try.f3) [1,0,0])) [2], .code (csub (cd Try.f3) [1,0,1]), .code (csub (cd Try.f3) [1,1])] [(1, pq b1)] (by kernel_rfl) (fewb_c q h he v (hq.kept hM5.kept) (by first | omega | (rw [bulk_two]; omega) | (rw [bulk_one]; omega) | (refine Nat.le_trans (bulk_put (by omega)) (by omega)) | decide +kernel)) ?_
  rintro _ w8 ⟨rfl, m9⟩
  refine ⟨_, rfl, ?_⟩
  have hM10 := Mem.join hM5 m9
  refine GoS.run [1, 8] [.n, .n] _ [.code (csub (cd Try.f3) [1,0,1]), .code (csub (cd Try.f3) [1,1])] [(1, pq b1), (8, .bool (!(decide (((fewQ q 0 : Nat) : Int) ≤ 5000))))] w8 (by kernel_rfl) .nil ?_
  refine GoS.cond (!(decide (((fewQ q 0 : Nat) : Int) ≤ 5000))) [.code (csub (cd Try.f3) [1,0,1,0]), .code (csub (cd Try.f3) [1,1])] [.code (csub (cd Try.f3) [1,0,1,1]), .code (csub (cd Try.f3) [1,1])] (by kernel_rfl) (fun h11 => ?_) (fun h11 => ?_)
  ·
    have h11p : ¬ (((fewQ q 0 : Nat) : Int) ≤ 5000) := of_decide_eq_false (p_nf h11)
    have hM12 : Mem [] w w8 [] := hM10.sub (cn (List.Sublist.refl _))
    refine GoS.run [] [.n, .n] _ [.inRegion (cops (csub (cd Try.f3) [1,0,1,0,0])) [0,1], .code (csub (cd Try.f3) [1,0,1,0,1]), .code (csub (cd Try.f3) [1,1])] [] w8 (by kernel_rfl) .nil ?_
    refine GoS.call [] 8 #[] (some 9) [.inRegion (cops (csub (cd Try.f3) [1,0,1,0,0])) [1], .code (csub (cd Try.f3) [1,0,1,0,1]), .code (csub (cd Try.f3) [1,1])] [] (by kernel_rfl) (awake_c w8) ?_
    rintro _ w13 ⟨rfl, m14⟩
    refine ⟨_, rfl, ?_⟩
    have hM15 := Mem.join hM12 m14
    refine GoS.run [2] [.n, .n] _ [.code (csub (cd Try.f3) [1,0,1,0,1]), .code (csub (cd Try.f3) [1,1])] [(2, .bool true)] w13 (by kernel_rfl) .nil ?_
    refine GoS.ret (fn := Try.f3) (v := (.bool true)) Try.func3 (by kernel_rfl) ?_
    rw [hR]
    exact ⟨rfl, (hM15.sub (List.nil_sublist _)).below⟩
  ·
    have h11p : ((fewQ q 0 : Nat) : Int) ≤ 5000 := of_decide_eq_true (p_nt h11)
    refine GoS.run [1] [.n] _ [.code (csub (cd Try.f3) [1,1])] [(1, pq b1)] w8 (by kernel_rfl) .nil ?_
    have o16 : (Instr.loadAt 25 (pq b1)).run Try.prog w8 = .ok ((qA h v)) w8 := c_loads (ys := (qR h v)) aE25 (hM10.rd 0 rfl) (cel_obj b1 0) rfl (by intro j u hj; match j, hj with | 0, hj => exact hj | 1, hj => exact hj | 2, hj => exact hj | 3, hj => exact hj | 4, hj => exact hj | 5, hj => exact hj | 6, hj => exact hj | 7, hj => exact hj | n + 8, hj => cases hj)
    refine GoS.run [1, 10] [.n, .n, .h ((qA h v))] _ [.inRegion (cops (csub (cd Try.f3) [1,1,0])) [1,2,3], .code (csub (cd Try.f3) [1,1,1])] [(1, pq b1), (10, (qA h v))] w8 (by kernel_rfl) (.cons o16 .nil) ?_
    refine GoS.call [1] 9 #[(qA h v)] (some 11) [.inRegion (cops (csub (cd Try.f3) [1,1,0])) [2,3], .code (csub (cd Try.f3) [1,1,1])] [(1, pq b1)] (by kernel_rfl) (copy_c q h he v (hq.kept hM10.kept) (by first | omega | (rw [bulk_two]; omega) | (rw [bulk_one]; omega) | (refine Nat.le_trans (bulk_put (by omega)) (by omega)) | decide +kernel)) ?_
    rintro _ w17 ⟨u18, M19, T20, rfl, h23, h24, h25, m22⟩
    refine ⟨_, rfl, ?_⟩
    obtain ⟨T21, hT27⟩ : ∃ T_, T_ = (⟨25, 8, u18, (List.length M19), (recs qnC M19)⟩ :: T20) := ⟨_, rfl⟩
    have hqt26 : QT T21 q u18 := by rw [hT27]; exact QT.whole h23 h24 h25
    have hM28 : Mem [] w w17 (⟨25, 8, (obj b1), 1, (qR h v)⟩ :: T21) := by rw [hT27]; exact Mem.join0 (A := [⟨25, 8, (obj b1), 1, (qR h v)⟩]) hM10 m22
    obtain ⟨b29, w30, hr31, hM32⟩ := m_alloc oT25 hM28
    have hM33 : Mem [] w w30 (⟨25, 8, (obj b29), 1, (qP 0 (.slice none 0 0))⟩ :: ⟨25, 8, (obj b1), 1, (qR h v)⟩ :: T21) := hM32
    have o38 : (Instr.alloc 25 true (.tuple #[])).run Try.prog w17 = .ok (pq b29) w30 := hr31
    obtain ⟨w34, hr35, hM36⟩ := c_stores (ys := (qR h u18)) aE25 hM33 0 rfl (cel_obj b29 0) rfl (by decide) (by intro u hu; simp at hu; rcases hu with rfl | rfl | rfl | rfl | rfl | rfl | rfl | rfl <;> first | rfl | exact (QT.rd hM33 (fun r_ h_ => List.mem_cons_of_mem _ (List.mem_cons_of_mem _ (h_))) hqt26).one.1)
    have hM37 : Mem [] w w34 (⟨25, 8, (obj b29), 1, (qR h u18)⟩ :: ⟨25, 8, (obj b1), 1, (qR h v)⟩ :: T21) := hM36
    have o39 : (Instr.storeAt 25 (pq b29) ((qA h u18))).run Try.prog w30 = .ok () w34 ∧ undef = undef := ⟨hr35, rfl⟩
    have o40 : (Instr.loadAt 25 (pq b29)).run Try.prog w34 = .ok ((qA h u18)) w34 := c_loads (ys := (qR h u18)) aE25 (hM37.rd 0 rfl) (cel_obj b29 0) rfl (by intro j u hj; match j, hj with | 0, hj => exact hj | 1, hj => exact hj | 2, hj => exact hj | 3, hj => exact hj | 4, hj => exact hj | 5, hj => exact hj | 6, hj => exact hj | 7, hj => exact hj | n + 8, hj => cases hj)
    refine GoS.run [1, 3, 13] [.u (pq b29) (w30), .u (undef) (w34), .n, .n, .n, .h ((qA h u18))] _ [.inRegion (cops (csub (cd Try.f3) [1,1,1,0])) [1,2,3,4,5,6], .code (csub (cd Try.f3) [1,1,1,1])] [(1, pq b1), (3, pq b29), (13, (qA h u18))] w34 (by kernel_rfl) (.cons o38 (.cons o39 (.cons o40 .nil))) ?_
    refine GoS.call [1, 3] 10 #[(qA h u18)] (some 14) [.inRegion (cops (csub (cd Try.f3) [1,1,1,0])) [2,3,4,5,6], .code (csub (cd Try.f3) [1,1,1,1])] [(1, pq b1), (3, pq b29)] (by kernel_rfl) (size_c q h he u18 (QT.rd hM37 (fun r_ h_ => List.mem_cons_of_mem _ (List.mem_cons_of_mem _ (h_))) hqt26) (by first | omega | (rw [bulk_two]; omega) | (rw [bulk_one]; omega) | (refine Nat.le_trans (bulk_put (by omega)) (by omega)) | decide +kernel)) ?_
    rintro _ w41 ⟨rfl, m42⟩
    refine ⟨_, rfl, ?_⟩
    have hM43 := Mem.join hM37 m42
    refine GoS.run [1, 3, 4, 5] [.n, .n, .n, .n, .n, .n, .n] _ [.code (csub (cd Try.f3) [1,1,1,1,0]), .code (csub (cd Try.f3) [1,1,1,1,1])] [(1, pq b1), (3, pq b29), (4, .int .i64 (((sizeQ q) : Nat) : Int)), (5, .int .i64 (((deepQ q) : Nat) : Int))] w41 (by kernel_rfl) .nil ?_
    obtain ⟨w44, hw45⟩ : ∃ w_, (w41).drewN 1 = w_ := ⟨_, rfl⟩
    refine GoS.held (fun W_ => Mem [] w W_ (⟨25, 8, (obj b29), 1, (qR h u18)⟩ :: ⟨25, 8, (obj b1), 1, (qR h v)⟩ :: T21)) [] 5 (by kernel_rfl) (by kernel_rfl) 26 (by kernel_rfl) ?_
    rw [hw45]
    have hM46 : Mem [] w w44 (⟨25, 8, (obj b29), 1, (qR h u18)⟩ :: ⟨25, 8, (obj b1), 1, (qR h v)⟩ :: T21) := hw45 ▸ hM43.ext (Kept.drewN _ _ 1)
    have hS47 : Mem [] w w44 (⟨25, 8, (obj b29), 1, (qR h u18)⟩ :: ⟨25, 8, (obj b1), 1, (qR h v)⟩ :: T21) := hM46.sub (cc (cc (List.Sublist.refl _)))
    refine GoH.callF 0 8 #[] (some 17) (by kernel_rfl) (awake_c w44) ?_
    rintro _ w48 ⟨rfl, m49⟩
    have hM50 := Mem.join hM46 m49
    have hS51 : Mem [] w w48 (⟨25, 8, (obj b29), 1, (qR h u18)⟩ :: ⟨25, 8, (obj b1), 1, (qR h v)⟩ :: T21) := hM50.sub (cc (cc (List.Sublist.refl _)))
    refine ⟨.bool true, rfl, .inr hS51, ?_⟩
    refine GoH.takeV 1 (.bool true) (.bool true) (some 18) (fun W_ => by kernel_rfl) rfl hS51 ?_
    refine GoH.takeV 2 (.int .i64 (((sizeQ q) : Nat) : Int)) (.int .i64 (((sizeQ q) : Nat) : Int)) (some 19) (fun W_ => by kernel_rfl) rfl hS51 ?_
    refine GoH.takeF 3 ((qA h v)) (fun W_ => (Instr.loadAt 25 (pq b1)).run Try.prog W_ = .ok ((qA h v)) W_) (some 20) (fun W_ => by kernel_rfl) (fun W_ hW_ => c_loads (ys := (qR h v)) aE25 (hW_.rd 1 rfl) (cel_obj b1 0) rfl (by intro j u hj; match j, hj with | 0, hj => exact hj | 1, hj => exact hj | 2, hj => exact hj | 3, hj => exact hj | 4, hj => exact hj | 5, hj => exact hj | 6, hj => exact hj | 7, hj => exact hj | n + 8, hj => cases hj)) hS51 ?_
    refine GoH.callF 4 11 #[(qA h v)] (some 21) (by kernel_rfl) (parts_c q h he v (hq.kept hM50.kept) (by first | omega | (rw [bulk_two]; omega) | (rw [bulk_one]; omega) | (refine Nat.le_trans (bulk_put (by omega)) (by omega)) | decide +kernel)) ?_
    rintro _ w52 ⟨rfl, m53⟩
    have hM54 := Mem.join hM50 m53
    have hS55 : Mem [] w w52 (⟨25, 8, (obj b29), 1, (qR h u18)⟩ :: ⟨25, 8, (obj b1), 1, (qR h v)⟩ :: T21) := hM54.sub (cc (cc (List.Sublist.refl _)))
    refine ⟨.int .i64 (((sizeQ q) : Nat) : Int), rfl, .inr hS55, ?_⟩
    refine GoH.takeF 5 (.bool true) (fun W_ => (IntKind.i64 = IntKind.i64) ∧ W_ = W_ ∧ Value.bool true = .bool ((((sizeQ q) : Nat) : Int) == (((sizeQ q) : Nat) : Int))) (some 22) (fun W_ => by kernel_rfl) (fun W_ hW_ => ⟨rfl, rfl, congrArg Value.bool (Eq.symm (beq_self_eq_true _))⟩) hS55 ?_
    refine GoH.takeV 6 (.bool true) (.bool true) (some 23) (fun W_ => by kernel_rfl) rfl hS55 ?_
    refine GoH.takeV 7 (.bool true) (.bool true) (some 24) (fun W_ => by kernel_rfl) rfl hS55 ?_
    refine GoH.takeV 8 (.int .i64 (((deepQ q) : Nat) : Int)) (.int .i64 (((deepQ q) : Nat) : Int)) (some 25) (fun W_ => by kernel_rfl) rfl hS55 ?_
    refine GoH.takeF 9 ((qA h v)) (fun W_ => (Instr.loadAt 25 (pq b1)).run Try.prog W_ = .ok ((qA h v)) W_) (some 26) (fun W_ => by kernel_rfl) (fun W_ hW_ => c_loads (ys := (qR h v)) aE25 (hW_.rd 1 rfl) (cel_obj b1 0) rfl (by intro j u hj; match j, hj with | 0, hj => exact hj | 1, hj => exact hj | 2, hj => exact hj | 3, hj => exact hj | 4, hj => exact hj | 5, hj => exact hj | 6, hj => exact hj | 7, hj => exact hj | n + 8, hj => cases hj)) hS55 ?_
    refine GoH.callF 10 12 #[(qA h v)] (some 27) (by kernel_rfl) (deep_c q h he v (hq.kept hM54.kept) (by first | omega | (rw [bulk_two]; omega) | (rw [bulk_one]; omega) | (refine Nat.le_trans (bulk_put (by omega)) (by omega)) | decide +kernel)) ?_
    rintro _ w56 ⟨rfl, m57⟩
    have hM58 := Mem.join hM54 m57
    have hS59 : Mem [] w w56 (⟨25, 8, (obj b29), 1, (qR h u18)⟩ :: ⟨25, 8, (obj b1), 1, (qR h v)⟩ :: T21) := hM58.sub (cc (cc (List.Sublist.refl _)))
    refine ⟨.int .i64 (((deepQ q) : Nat) : Int), rfl, .inr hS59, ?_⟩
    refine GoH.takeF 11 (.bool true) (fun W_ => (IntKind.i64 = IntKind.i64) ∧ W_ = W_ ∧ Value.bool true = .bool ((((deepQ q) : Nat) : Int) == (((deepQ q) : Nat) : Int))) (some 28) (fun W_ => by kernel_rfl) (fun W_ hW_ => ⟨rfl, rfl, congrArg Value.bool (Eq.symm (beq_self_eq_true _))⟩) hS59 ?_
    refine GoH.takeV 12 (.bool true) (.bool true) (some 29) (fun W_ => by kernel_rfl) rfl hS59 ?_
    refine GoH.takeV 13 (.bool true) (.bool true) (some 30) (fun W_ => by kernel_rfl) rfl hS59 ?_
    refine GoH.takeF 14 ((qA h u18)) (fun W_ => (Instr.loadAt 25 (pq b29)).run Try.prog W_ = .ok ((qA h u18)) W_) (some 31) (fun W_ => by kernel_rfl) (fun W_ hW_ => c_loads (ys := (qR h u18)) aE25 (hW_.rd 0 rfl) (cel_obj b29 0) rfl (by intro j u hj; match j, hj with | 0, hj => exact hj | 1, hj => exact hj | 2, hj => exact hj | 3, hj => exact hj | 4, hj => exact hj | 5, hj => exact hj | 6, hj => exact hj | 7, hj => exact hj | n + 8, hj => cases hj)) hS59 ?_
    refine GoH.takeF 16 ((qA h v)) (fun W_ => (Instr.loadAt 25 (pq b1)).run Try.prog W_ = .ok ((qA h v)) W_) (some 33) (fun W_ => by kernel_rfl) (fun W_ hW_ => c_loads (ys := (qR h v)) aE25 (hW_.rd 1 rfl) (cel_obj b1 0) rfl (by intro j u hj; match j, hj with | 0, hj => exact hj | 1, hj => exact hj | 2, hj => exact hj | 3, hj => exact hj | 4, hj => exact hj | 5, hj => exact hj | 6, hj => exact hj | 7, hj => exact hj | n + 8, hj => cases hj)) hS59 ?_
    refine GoH.callF 15 13 #[(qA h u18)] (some 32) (by kernel_rfl) (check_c q h he u18 (QT.rd hM58 (fun r_ h_ => List.mem_cons_of_mem _ (List.mem_cons_of_mem _ (h_))) hqt26) (by first | omega | (rw [bulk_two]; omega) | (rw [bulk_one]; omega) | (refine Nat.le_trans (bulk_put (by omega)) (by omega)) | decide +kernel)) ?_
    rintro _ w60 ⟨rfl, m61⟩
    have hM62 := Mem.join hM58 m61
    have hS63 : Mem [] w w60 (⟨25, 8, (obj b29), 1, (qR h u18)⟩ :: ⟨25, 8, (obj b1), 1, (qR h v)⟩ :: T21) := hM62.sub (cc (cc (List.Sublist.refl _)))
    refine ⟨.int .i64 (checkQ q), rfl, .inr hS63, ?_⟩
    refine GoH.callF 17 14 #[(qA h v)] (some 34) (by kernel_rfl) (rcheck_c q h he v (hq.kept hM62.kept) (by first | omega | (rw [bulk_two]; omega) | (rw [bulk_one]; omega) | (refine Nat.le_trans (bulk_put (by omega)) (by omega)) | decide +kernel)) ?_
    rintro _ w64 ⟨rfl, m65⟩
    have hM66 := Mem.join hM62 m65
    have hS67 : Mem [] w w64 (⟨25, 8, (obj b29), 1, (qR h u18)⟩ :: ⟨25, 8, (obj b1), 1, (qR h v)⟩ :: T21) := hM66.sub (cc (cc (List.Sublist.refl _)))
    refine ⟨.int .i64 (checkQ q), rfl, .inr hS67, ?_⟩
    refine GoH.takeF 18 (.bool true) (fun W_ => (IntKind.i64 = IntKind.i64) ∧ W_ = W_ ∧ Value.bool true = .bool ((checkQ q) == (checkQ q))) (some 35) (fun W_ => by kernel_rfl) (fun W_ hW_ => ⟨rfl, rfl, congrArg Value.bool (Eq.symm (beq_self_eq_true _))⟩) hS67 ?_
    refine GoH.takeV 19 (.bool true) (.bool true) (some 36) (fun W_ => by kernel_rfl) rfl hS67 ?_
    refine GoH.takeV 20 (.bool true) (.bool true) (some 37) (fun W_ => by kernel_rfl) rfl hS67 ?_
    refine GoH.takeF 21 ((qA h u18)) (fun W_ => (Instr.loadAt 25 (pq b29)).run Try.prog W_ = .ok ((qA h u18)) W_) (some 38) (fun W_ => by kernel_rfl) (fun W_ hW_ => c_loads (ys := (qR h u18)) aE25 (hW_.rd 0 rfl) (cel_obj b29 0) rfl (by intro j u hj; match j, hj with | 0, hj => exact hj | 1, hj => exact hj | 2, hj => exact hj | 3, hj => exact hj | 4, hj => exact hj | 5, hj => exact hj | 6, hj => exact hj | 7, hj => exact hj | n + 8, hj => cases hj)) hS67 ?_
    refine GoH.takeF 22 ((qA h v)) (fun W_ => (Instr.loadAt 25 (pq b1)).run Try.prog W_ = .ok ((qA h v)) W_) (some 39) (fun W_ => by kernel_rfl) (fun W_ hW_ => c_loads (ys := (qR h v)) aE25 (hW_.rd 1 rfl) (cel_obj b1 0) rfl (by intro j u hj; match j, hj with | 0, hj => exact hj | 1, hj => exact hj | 2, hj => exact hj | 3, hj => exact hj | 4, hj => exact hj | 5, hj => exact hj | 6, hj => exact hj | 7, hj => exact hj | n + 8, hj => cases hj)) hS67 ?_
    refine GoH.callF 23 15 #[(qA h u18), (qA h v)] (some 40) (by kernel_rfl) (rsame_c q h he u18 (QT.rd hM66 (fun r_ h_ => List.mem_cons_of_mem _ (List.mem_cons_of_mem _ (h_))) hqt26) (by first | omega | (rw [bulk_two]; omega) | (rw [bulk_one]; omega) | (refine Nat.le_trans (bulk_put (by omega)) (by omega)) | decide +kernel) q h he v (hq.kept hM66.kept) (by first | omega | (rw [bulk_two]; omega) | (rw [bulk_one]; omega) | (refine Nat.le_trans (bulk_put (by omega)) (by omega)) | decide +kernel)) ?_
    rintro _ w68 ⟨rfl, m69⟩
    have hM70 := Mem.join hM66 m69
    have hS71 : Mem [] w w68 (⟨25, 8, (obj b29), 1, (qR h u18)⟩ :: ⟨25, 8, (obj b1), 1, (qR h v)⟩ :: T21) := hM70.sub (cc (cc (List.Sublist.refl _)))
    refine ⟨.bool (sameQ q q), rfl, .inr hS71, ?_⟩
    refine GoH.takeV 24 (.bool (sameQ q q)) (.bool (sameQ q q)) (some 41) (fun W_ => by kernel_rfl) rfl hS71 ?_
    refine GoH.takeV 25 (.bool (sameQ q q)) (.bool (sameQ q q)) (some 2) (fun W_ => by kernel_rfl) rfl hS71 ?_
    refine GoH.done [2] [(2, .bool (sameQ q q))] (by kernel_rfl) (by kernel_rfl) ?_
    have hM72 : Mem [] w w68 (T21) := hM70.sub (cn (cn (List.Sublist.refl _)))
    refine GoS.ret (fn := Try.f3) (v := (.bool (sameQ q q))) Try.func3 (by kernel_rfl) ?_
    rw [hR]
    exact ⟨ret_bool (same_refl _), (hM72.sub (List.nil_sublist _)).below⟩


end Go.Proofs.Ytnhplkkbpmijdaa
