/-
  The walk of QueryBuilds.
-/
import Derived.Test.YtnhplkkbpmijdaaQryM
namespace Go.Proofs.Ytnhplkkbpmijdaa
open Go Go.Gw Go.UtfP Go.TokP Go.QryP Go.RowKit
set_option linter.unusedVariables false
set_option linter.unusedSimpArgs false


set_option maxHeartbeats 4000000 in
theorem lbuilds_c {w : World} (qa : Q) (ha : Hd) (hea : ha = qa.h) (va : Value) (hqa : RdQ w qa va) (hba : bulkQ qa ≤ 1048576) (qb : Q) (hb : Hd) (heb : hb = qb.h) (vb : Value) (hqb : RdQ w qb vb) (hbb : bulkQ qb ≤ 1048576) (hab : bulkQ qa + bulkQ qb + 10 ≤ 1048576) :
    Calls Try.prog 5 #[(qA ha va), (qA hb vb)] w (fun e w' => e = .returned (.bool true) ∧ Below w.heap.size w w') := by
  obtain ⟨La, hra, hla, hha, hsa⟩ := hqa.inv
  have hbla : bulkL qa.l + qa.h.field.length + qa.h.text.length + 1 = bulkQ qa := by cases qa; rw [bulkQ_mk]; rfl
  have hlna := bulk_len qa.l
  obtain ⟨Lb, hrb, hlb, hhb, hsb⟩ := hqb.inv
  have hblb : bulkL qb.l + qb.h.field.length + qb.h.text.length + 1 = bulkQ qb := by cases qb; rw [bulkQ_mk]; rfl
  have hlnb := bulk_len qb.l
  have hsa := size_le qa
  have hsb := size_le qb
  obtain ⟨R, hR⟩ : ∃ R : Ending → World → Prop, R = (fun e w' => e = .returned (.bool true) ∧ Below w.heap.size w w') := ⟨_, rfl⟩
  rw [← hR]
  refine GoS.enter (n := 121) Try.func5 (by kernel_rfl) rfl [(0, (qA ha va)), (1, (qA hb vb))] (by kernel_rfl) (by kernel_rfl) ?_
  have hM0 := Mem.start w
  obtain ⟨b1, w2, hr3, hM4⟩ := m_box (T := 25) (k := 8) (u := (qA ha va)) rfl rfl hM0
  have hM5 : Mem [] w w2 [⟨25, 8, (obj b1), 1, (qR ha va)⟩] := hM4
  have o11 : (Instr.box 25 ((qA ha va))).run Try.prog w = .ok (pq b1) w2 := hr3
  obtain ⟨b6, w7, hr8, hM9⟩ := m_box (T := 25) (k := 8) (u := (qA hb vb)) rfl rfl hM5
  have hM10 : Mem [] w w7 [⟨25, 8, (obj b6), 1, (qR hb vb)⟩, ⟨25, 8, (obj b1), 1, (qR ha va)⟩] := hM9
  have o12 : (Instr.box 25 ((qA hb vb))).run Try.prog w2 = .ok (pq b6) w7 := hr8
  have o13 : (Instr.loadAt 25 (pq b1)).run Try.prog w7 = .ok ((qA ha va)) w7 := c_loads (ys := (qR ha va)) aE25 (hM10.rd 1 rfl) (cel_obj b1 0) rfl (by intro j u hj; match j, hj with | 0, hj => exact hj | 1, hj => exact hj | 2, hj => exact hj | 3, hj => exact hj | 4, hj => exact hj | 5, hj => exact hj | 6, hj => exact hj | 7, hj => exact hj | n + 8, hj => cases hj)
  refine GoS.run [2, 3, 16] [.n, .n, .u (pq b1) (w2), .u (pq b6) (w7), .n, .n, .n, .n, .n, .h ((qA ha va))] _ [.inRegion (cops (csub (cd Try.f5) [1,0,0])) [1,2,3,4,5,6,7], .code (csub (cd Try.f5) [1,0,1]), .code (csub (cd Try.f5) [1,1])] [(2, pq b1), (3, pq b6), (16, (qA ha va))] w7 (by kernel_rfl) (.cons o11 (.cons o12 (.cons o13 .nil))) ?_
  refine GoS.call [2, 3] 7 #[(qA ha va)] (some 17) [.inRegion (cops (csub (cd Try.f5) [1,0,0])) [2,3,4,5,6,7], .code (csub (cd Try.f5) [1,0,1]), .code (csub (cd Try.f5) [1,1])] [(2, pq b1), (3, pq b6)] (by kernel_rfl) (fewb_c qa ha hea va (hqa.kept hM10.kept) (by first | omega | (rw [bulk_two]; omega) | (rw [bulk_one]; omega) | (refine Nat.le_trans (bulk_put (by omega)) (by omega)) | decide +kernel)) ?_
  rintro _ w14 ⟨rfl, m15⟩
  refine ⟨_, rfl, ?_⟩
  have hM16 := Mem.join hM10 m15
  refine GoS.run [2, 3, 19] [.n, .n] _ [.inRegion (cops (csub (cd Try.f5) [1,0,0])) [4,5,6,7], .code (csub (cd Try.f5) [1,0,1]), .code (csub (cd Try.f5) [1,1])] [(2, pq b1), (3, pq b6), (19, .bool (!(decide (((fewQ qa 0 : Nat) : Int) ≤ 5000))))] w14 (by kernel_rfl) .nil ?_
  refine GoS.fork 19 (!(decide (((fewQ qa 0 : Nat) : Int) ≤ 5000))) (by kernel_rfl) (fun h17 => ?_) (fun h17 => ?_)
  ·
    have h17p : ¬ (((fewQ qa 0 : Nat) : Int) ≤ 5000) := of_decide_eq_false (p_nf h17)
    refine GoS.run [2, 3, 23] [.n, .n, .n, .n] _ [.inRegion (cops (csub (cd Try.f5) [1,0,0])) [], .code (csub (cd Try.f5) [1,0,1]), .code (csub (cd Try.f5) [1,1])] [(2, pq b1), (3, pq b6), (23, .bool true)] w14 (by kernel_rfl) .nil ?_
    have hM22 : Mem [] w w14 [] := hM16.sub (cn (cn (List.Sublist.refl _)))
    refine GoS.run [] [.n, .n, .n, .n] _ [.inRegion (cops (csub (cd Try.f5) [1,0,1,0,0])) [0,1], .code (csub (cd Try.f5) [1,0,1,0,1]), .code (csub (cd Try.f5) [1,1])] [] w14 (by kernel_rfl) .nil ?_
    refine GoS.call [] 8 #[] (some 24) [.inRegion (cops (csub (cd Try.f5) [1,0,1,0,0])) [1], .code (csub (cd Try.f5) [1,0,1,0,1]), .code (csub (cd Try.f5) [1,1])] [] (by kernel_rfl) (awake_c w14) ?_
    rintro _ w23 ⟨rfl, m24⟩
    refine ⟨_, rfl, ?_⟩
    have hM25 := Mem.join hM22 m24
    refine GoS.run [4] [.n, .n] _ [.code (csub (cd Try.f5) [1,0,1,0,1]), .code (csub (cd Try.f5) [1,1])] [(4, .bool true)] w23 (by kernel_rfl) .nil ?_
    refine GoS.ret (fn := Try.f5) (v := (.bool true)) Try.func5 (by kernel_rfl) ?_
    rw [hR]
    exact ⟨rfl, (hM25.sub (List.nil_sublist _)).below⟩
  ·
    have h17p : ((fewQ qa 0 : Nat) : Int) ≤ 5000 := of_decide_eq_true (p_nt h17)
    have o18 : (Instr.loadAt 25 (pq b6)).run Try.prog w14 = .ok ((qA hb vb)) w14 := c_loads (ys := (qR hb vb)) aE25 (hM16.rd 0 rfl) (cel_obj b6 0) rfl (by intro j u hj; match j, hj with | 0, hj => exact hj | 1, hj => exact hj | 2, hj => exact hj | 3, hj => exact hj | 4, hj => exact hj | 5, hj => exact hj | 6, hj => exact hj | 7, hj => exact hj | n + 8, hj => cases hj)
    refine GoS.run [2, 3, 19, 20] [.h ((qA hb vb))] _ [.inRegion (cops (csub (cd Try.f5) [1,0,0])) [5,6,7], .code (csub (cd Try.f5) [1,0,1]), .code (csub (cd Try.f5) [1,1])] [(2, pq b1), (3, pq b6), (19, .bool false), (20, (qA hb vb))] w14 (by kernel_rfl) (.cons o18 .nil) ?_
    refine GoS.call [2, 3, 19] 7 #[(qA hb vb)] (some 21) [.inRegion (cops (csub (cd Try.f5) [1,0,0])) [6,7], .code (csub (cd Try.f5) [1,0,1]), .code (csub (cd Try.f5) [1,1])] [(2, pq b1), (3, pq b6), (19, .bool false)] (by kernel_rfl) (fewb_c qb hb heb vb (hqb.kept hM16.kept) (by first | omega | (rw [bulk_two]; omega) | (rw [bulk_one]; omega) | (refine Nat.le_trans (bulk_put (by omega)) (by omega)) | decide +kernel)) ?_
    rintro _ w19 ⟨rfl, m20⟩
    refine ⟨_, rfl, ?_⟩
    have hM21 := Mem.join hM16 m20
    refine GoS.run [2, 3, 23] [.n, .n] _ [.inRegion (cops (csub (cd Try.f5) [1,0,0])) [], .code (csub (cd Try.f5) [1,0,1]), .code (csub (cd Try.f5) [1,1])] [(2, pq b1), (3, pq b6), (23, .bool (!(decide (((fewQ qb 0 : Nat) : Int) ≤ 5000))))] w19 (by kernel_rfl) .nil ?_
    refine GoS.run [2, 3, 23] [.n] _ [.code (csub (cd Try.f5) [1,0,1]), .code (csub (cd Try.f5) [1,1])] [(2, pq b1), (3, pq b6), (23, .bool (!(decide (((fewQ qb 0 : Nat) : Int) ≤ 5000))))] w19 (by kernel_rfl) .nil ?_
    refine GoS.cond (!(decide (((fewQ qb 0 : Nat) : Int) ≤ 5000))) [.code (csub (cd Try.f5) [1,0,1,0]), .code (csub (cd Try.f5) [1,1])] [.code (csub (cd Try.f5) [1,0,1,1]), .code (csub (cd Try.f5) [1,1])] (by kernel_rfl) (fun h26 => ?_) (fun h26 => ?_)
    ·
      have h26p : ¬ (((fewQ qb 0 : Nat) : Int) ≤ 5000) := of_decide_eq_false (p_nf h26)
      have hM27 : Mem [] w w19 [] := hM21.sub (cn (cn (List.Sublist.refl _)))
      refine GoS.run [] [.n, .n] _ [.inRegion (cops (csub (cd Try.f5) [1,0,1,0,0])) [0,1], .code (csub (cd Try.f5) [1,0,1,0,1]), .code (csub (cd Try.f5) [1,1])] [] w19 (by kernel_rfl) .nil ?_
      refine GoS.call [] 8 #[] (some 24) [.inRegion (cops (csub (cd Try.f5) [1,0,1,0,0])) [1], .code (csub (cd Try.f5) [1,0,1,0,1]), .code (csub (cd Try.f5) [1,1])] [] (by kernel_rfl) (awake_c w19) ?_
      rintro _ w28 ⟨rfl, m29⟩
      refine ⟨_, rfl, ?_⟩
      have hM30 := Mem.join hM27 m29
      refine GoS.run [4] [.n, .n] _ [.code (csub (cd Try.f5) [1,0,1,0,1]), .code (csub (cd Try.f5) [1,1])] [(4, .bool true)] w28 (by kernel_rfl) .nil ?_
      refine GoS.ret (fn := Try.f5) (v := (.bool true)) Try.func5 (by kernel_rfl) ?_
      rw [hR]
      exact ⟨rfl, (hM30.sub (List.nil_sublist _)).below⟩
    ·
      have h26p : ((fewQ qb 0 : Nat) : Int) ≤ 5000 := of_decide_eq_true (p_nt h26)
      refine GoS.run [2, 3] [.n] _ [.code (csub (cd Try.f5) [1,1])] [(2, pq b1), (3, pq b6)] w19 (by kernel_rfl) .nil ?_
      have o31 : (Instr.loadAt 25 (pq b1)).run Try.prog w19 = .ok ((qA ha va)) w19 := c_loads (ys := (qR ha va)) aE25 (hM21.rd 1 rfl) (cel_obj b1 0) rfl (by intro j u hj; match j, hj with | 0, hj => exact hj | 1, hj => exact hj | 2, hj => exact hj | 3, hj => exact hj | 4, hj => exact hj | 5, hj => exact hj | 6, hj => exact hj | 7, hj => exact hj | n + 8, hj => cases hj)
      refine GoS.run [2, 3, 26] [.n, .n, .h ((qA ha va))] _ [.inRegion (cops (csub (cd Try.f5) [1,1,0])) [1,2,3,4,5,6], .code (csub (cd Try.f5) [1,1,1])] [(2, pq b1), (3, pq b6), (26, (qA ha va))] w19 (by kernel_rfl) (.cons o31 .nil) ?_
      refine GoS.call [2, 3] 10 #[(qA ha va)] (some 27) [.inRegion (cops (csub (cd Try.f5) [1,1,0])) [2,3,4,5,6], .code (csub (cd Try.f5) [1,1,1])] [(2, pq b1), (3, pq b6)] (by kernel_rfl) (size_c qa ha hea va (hqa.kept hM21.kept) (by first | omega | (rw [bulk_two]; omega) | (rw [bulk_one]; omega) | (refine Nat.le_trans (bulk_put (by omega)) (by omega)) | decide +kernel)) ?_
      rintro _ w32 ⟨rfl, m33⟩
      refine ⟨_, rfl, ?_⟩
      have hM34 := Mem.join hM21 m33
      have o35 : (Instr.loadAt 25 (pq b6)).run Try.prog w32 = .ok ((qA hb vb)) w32 := c_loads (ys := (qR hb vb)) aE25 (hM34.rd 0 rfl) (cel_obj b6 0) rfl (by intro j u hj; match j, hj with | 0, hj => exact hj | 1, hj => exact hj | 2, hj => exact hj | 3, hj => exact hj | 4, hj => exact hj | 5, hj => exact hj | 6, hj => exact hj | 7, hj => exact hj | n + 8, hj => cases hj)
      refine GoS.run [2, 3, 5, 6, 31] [.n, .n, .n, .n, .n, .n, .n, .n, .h ((qA hb vb))] _ [.inRegion (cops (csub (cd Try.f5) [1,1,1,0])) [1,2,3,4,5,6], .code (csub (cd Try.f5) [1,1,1,1])] [(2, pq b1), (3, pq b6), (5, .int .i64 (((sizeQ qa) : Nat) : Int)), (6, .int .i64 (((deepQ qa) : Nat) : Int)), (31, (qA hb vb))] w32 (by kernel_rfl) (.cons o35 .nil) ?_
      refine GoS.call [2, 3, 5, 6] 10 #[(qA hb vb)] (some 32) [.inRegion (cops (csub (cd Try.f5) [1,1,1,0])) [2,3,4,5,6], .code (csub (cd Try.f5) [1,1,1,1])] [(2, pq b1), (3, pq b6), (5, .int .i64 (((sizeQ qa) : Nat) : Int)), (6, .int .i64 (((deepQ qa) : Nat) : Int))] (by kernel_rfl) (size_c qb hb heb vb (hqb.kept hM34.kept) (by first | omega | (rw [bulk_two]; omega) | (rw [bulk_one]; omega) | (refine Nat.le_trans (bulk_put (by omega)) (by omega)) | decide +kernel)) ?_
      rintro _ w36 ⟨rfl, m37⟩
      refine ⟨_, rfl, ?_⟩
      have hM38 := Mem.join hM34 m37
      have o39 : (Instr.loadAt 25 (pq b1)).run Try.prog w36 = .ok ((qA ha va)) w36 := c_loads (ys := (qR ha va)) aE25 (hM38.rd 1 rfl) (cel_obj b1 0) rfl (by intro j u hj; match j, hj with | 0, hj => exact hj | 1, hj => exact hj | 2, hj => exact hj | 3, hj => exact hj | 4, hj => exact hj | 5, hj => exact hj | 6, hj => exact hj | 7, hj => exact hj | n + 8, hj => cases hj)
      refine GoS.run [2, 3, 5, 6, 7, 8, 35] [.n, .n, .n, .n, .n, .n, .n, .n, .h ((qA ha va))] _ [.inRegion (cops (csub (cd Try.f5) [1,1,1,1,0])) [1,2,3,4,5,6,7,8], .code (csub (cd Try.f5) [1,1,1,1,1])] [(2, pq b1), (3, pq b6), (5, .int .i64 (((sizeQ qa) : Nat) : Int)), (6, .int .i64 (((deepQ qa) : Nat) : Int)), (7, .int .i64 (((sizeQ qb) : Nat) : Int)), (8, .int .i64 (((deepQ qb) : Nat) : Int)), (35, (qA ha va))] w36 (by kernel_rfl) (.cons o39 .nil) ?_
      refine GoS.call [2, 3, 5, 6, 7, 8] 13 #[(qA ha va)] (some 36) [.inRegion (cops (csub (cd Try.f5) [1,1,1,1,0])) [2,3,4,5,6,7,8], .code (csub (cd Try.f5) [1,1,1,1,1])] [(2, pq b1), (3, pq b6), (5, .int .i64 (((sizeQ qa) : Nat) : Int)), (6, .int .i64 (((deepQ qa) : Nat) : Int)), (7, .int .i64 (((sizeQ qb) : Nat) : Int)), (8, .int .i64 (((deepQ qb) : Nat) : Int))] (by kernel_rfl) (check_c qa ha hea va (hqa.kept hM38.kept) (by first | omega | (rw [bulk_two]; omega) | (rw [bulk_one]; omega) | (refine Nat.le_trans (bulk_put (by omega)) (by omega)) | decide +kernel)) ?_
      rintro _ w40 ⟨rfl, m41⟩
      refine ⟨_, rfl, ?_⟩
      have hM42 := Mem.join hM38 m41
      refine GoS.run [2, 3, 5, 6, 7, 8, 38] [.n, .n] _ [.inRegion (cops (csub (cd Try.f5) [1,1,1,1,0])) [4,5,6,7,8], .code (csub (cd Try.f5) [1,1,1,1,1])] [(2, pq b1), (3, pq b6), (5, .int .i64 (((sizeQ qa) : Nat) : Int)), (6, .int .i64 (((deepQ qa) : Nat) : Int)), (7, .int .i64 (((sizeQ qb) : Nat) : Int)), (8, .int .i64 (((deepQ qb) : Nat) : Int)), (38, .bool ((checkQ qa) == 0))] w40 (by kernel_rfl) .nil ?_
      refine GoS.fork 38 ((checkQ qa) == 0) (by kernel_rfl) (fun h43 => ?_) (fun h43 => ?_)
      ·
        have h43p : (checkQ qa) = 0 := eq_of_beq h43
        have o44 : (Instr.loadAt 25 (pq b6)).run Try.prog w40 = .ok ((qA hb vb)) w40 := c_loads (ys := (qR hb vb)) aE25 (hM42.rd 0 rfl) (cel_obj b6 0) rfl (by intro j u hj; match j, hj with | 0, hj => exact hj | 1, hj => exact hj | 2, hj => exact hj | 3, hj => exact hj | 4, hj => exact hj | 5, hj => exact hj | 6, hj => exact hj | 7, hj => exact hj | n + 8, hj => cases hj)
        refine GoS.run [2, 3, 5, 6, 7, 8, 38, 39] [.h ((qA hb vb))] _ [.inRegion (cops (csub (cd Try.f5) [1,1,1,1,0])) [5,6,7,8], .code (csub (cd Try.f5) [1,1,1,1,1])] [(2, pq b1), (3, pq b6), (5, .int .i64 (((sizeQ qa) : Nat) : Int)), (6, .int .i64 (((deepQ qa) : Nat) : Int)), (7, .int .i64 (((sizeQ qb) : Nat) : Int)), (8, .int .i64 (((deepQ qb) : Nat) : Int)), (38, .bool true), (39, (qA hb vb))] w40 (by kernel_rfl) (.cons o44 .nil) ?_
        refine GoS.call [2, 3, 5, 6, 7, 8, 38] 13 #[(qA hb vb)] (some 40) [.inRegion (cops (csub (cd Try.f5) [1,1,1,1,0])) [6,7,8], .code (csub (cd Try.f5) [1,1,1,1,1])] [(2, pq b1), (3, pq b6), (5, .int .i64 (((sizeQ qa) : Nat) : Int)), (6, .int .i64 (((deepQ qa) : Nat) : Int)), (7, .int .i64 (((sizeQ qb) : Nat) : Int)), (8, .int .i64 (((deepQ qb) : Nat) : Int)), (38, .bool true)] (by kernel_rfl) (check_c qb hb heb vb (hqb.kept hM42.kept) (by first | omega | (rw [bulk_two]; omega) | (rw [bulk_one]; omega) | (refine Nat.le_trans (bulk_put (by omega)) (by omega)) | decide +kernel)) ?_
        rintro _ w45 ⟨rfl, m46⟩
        refine ⟨_, rfl, ?_⟩
        have hM47 := Mem.join hM42 m46
        refine GoS.run [2, 3, 5, 6, 7, 8, 9] [.n, .n, .n] _ [.inRegion (cops (csub (cd Try.f5) [1,1,1,1,0])) [], .code (csub (cd Try.f5) [1,1,1,1,1])] [(2, pq b1), (3, pq b6), (5, .int .i64 (((sizeQ qa) : Nat) : Int)), (6, .int .i64 (((deepQ qa) : Nat) : Int)), (7, .int .i64 (((sizeQ qb) : Nat) : Int)), (8, .int .i64 (((deepQ qb) : Nat) : Int)), (9, .bool ((checkQ qb) == 0))] w45 (by kernel_rfl) .nil ?_
        have o87 : (Instr.loadAt 25 (pq b1)).run Try.prog w45 = .ok ((qA ha va)) w45 := c_loads (ys := (qR ha va)) aE25 (hM47.rd 1 rfl) (cel_obj b1 0) rfl (by intro j u hj; match j, hj with | 0, hj => exact hj | 1, hj => exact hj | 2, hj => exact hj | 3, hj => exact hj | 4, hj => exact hj | 5, hj => exact hj | 6, hj => exact hj | 7, hj => exact hj | n + 8, hj => cases hj)
        have o88 : (Instr.loadAt 25 (pq b6)).run Try.prog w45 = .ok ((qA hb vb)) w45 := c_loads (ys := (qR hb vb)) aE25 (hM47.rd 0 rfl) (cel_obj b6 0) rfl (by intro j u hj; match j, hj with | 0, hj => exact hj | 1, hj => exact hj | 2, hj => exact hj | 3, hj => exact hj | 4, hj => exact hj | 5, hj => exact hj | 6, hj => exact hj | 7, hj => exact hj | n + 8, hj => cases hj)
        obtain ⟨v48, w49, hr50, hM51⟩ := m_lit sT23 hM47 (n := 2) (parts := #[(0, (qA ha va)), (1, (qA hb vb))]) (cs := (qRR ha va hb vb)) (by decide) (by kernel_rfl) rfl
        have o89 : (Instr.buildSlice 23 2 #[(0, (qA ha va)), (1, (qA hb vb))]).run Try.prog w45 = .ok v48 w49 := hr50
        have o90 : (Instr.build 25 #[(0, .int .i64 7), (7, v48)]).run Try.prog w49 = .ok ((qO 7 v48)) w49 := (by obtain ⟨a0_, m0_, c0_, e0_⟩ : ∃ a m c, v48 = Value.slice a m c := rd_form (hM51.rd 0 rfl); rw [e0_]; kernel_rfl)
        obtain ⟨b52, w53, hr54, hM55⟩ := m_alloc oT25 hM51
        have hM56 : Mem [] w w53 [⟨25, 8, (obj b52), 1, (qP 0 (.slice none 0 0))⟩, ⟨25, 8, v48, 2, (qRR ha va hb vb)⟩, ⟨25, 8, (obj b6), 1, (qR hb vb)⟩, ⟨25, 8, (obj b1), 1, (qR ha va)⟩] := hM55
        have o91 : (Instr.alloc 25 true (.tuple #[])).run Try.prog w49 = .ok (pq b52) w53 := hr54
        obtain ⟨w57, hr58, hM59⟩ := c_stores (ys := (qP 7 v48)) aE25 hM56 0 rfl (cel_obj b52 0) rfl (by decide) (by intro u hu; simp at hu; rcases hu with rfl | rfl | rfl | rfl | rfl | rfl | rfl | rfl <;> first | rfl | exact (rd_one (hM56.rd 1 rfl)))
        have hM60 : Mem [] w w57 [⟨25, 8, (obj b52), 1, (qP 7 v48)⟩, ⟨25, 8, v48, 2, (qRR ha va hb vb)⟩, ⟨25, 8, (obj b6), 1, (qR hb vb)⟩, ⟨25, 8, (obj b1), 1, (qR ha va)⟩] := hM59
        have o92 : (Instr.storeAt 25 (pq b52) ((qO 7 v48))).run Try.prog w53 = .ok () w57 ∧ undef = undef := ⟨hr58, rfl⟩
        have o93 : (Instr.loadAt 25 (pq b1)).run Try.prog w57 = .ok ((qA ha va)) w57 := c_loads (ys := (qR ha va)) aE25 (hM60.rd 3 rfl) (cel_obj b1 0) rfl (by intro j u hj; match j, hj with | 0, hj => exact hj | 1, hj => exact hj | 2, hj => exact hj | 3, hj => exact hj | 4, hj => exact hj | 5, hj => exact hj | 6, hj => exact hj | 7, hj => exact hj | n + 8, hj => cases hj)
        have o94 : (Instr.loadAt 25 (pq b6)).run Try.prog w57 = .ok ((qA hb vb)) w57 := c_loads (ys := (qR hb vb)) aE25 (hM60.rd 2 rfl) (cel_obj b6 0) rfl (by intro j u hj; match j, hj with | 0, hj => exact hj | 1, hj => exact hj | 2, hj => exact hj | 3, hj => exact hj | 4, hj => exact hj | 5, hj => exact hj | 6, hj => exact hj | 7, hj => exact hj | n + 8, hj => cases hj)
        obtain ⟨v61, w62, hr63, hM64⟩ := m_lit sT23 hM60 (n := 2) (parts := #[(0, (qA ha va)), (1, (qA hb vb))]) (cs := (qRR ha va hb vb)) (by decide) (by kernel_rfl) rfl
        have o95 : (Instr.buildSlice 23 2 #[(0, (qA ha va)), (1, (qA hb vb))]).run Try.prog w57 = .ok v61 w62 := hr63
        have o96 : (Instr.build 25 #[(0, .int .i64 8), (7, v61)]).run Try.prog w62 = .ok ((qO 8 v61)) w62 := (by obtain ⟨a0_, m0_, c0_, e0_⟩ : ∃ a m c, v61 = Value.slice a m c := rd_form (hM64.rd 0 rfl); rw [e0_]; kernel_rfl)
        obtain ⟨b65, w66, hr67, hM68⟩ := m_alloc oT25 hM64
        have hM69 : Mem [] w w66 [⟨25, 8, (obj b65), 1, (qP 0 (.slice none 0 0))⟩, ⟨25, 8, v61, 2, (qRR ha va hb vb)⟩, ⟨25, 8, (obj b52), 1, (qP 7 v48)⟩, ⟨25, 8, v48, 2, (qRR ha va hb vb)⟩, ⟨25, 8, (obj b6), 1, (qR hb vb)⟩, ⟨25, 8, (obj b1), 1, (qR ha va)⟩] := hM68
        have o97 : (Instr.alloc 25 true (.tuple #[])).run Try.prog w62 = .ok (pq b65) w66 := hr67
        obtain ⟨w70, hr71, hM72⟩ := c_stores (ys := (qP 8 v61)) aE25 hM69 0 rfl (cel_obj b65 0) rfl (by decide) (by intro u hu; simp at hu; rcases hu with rfl | rfl | rfl | rfl | rfl | rfl | rfl | rfl <;> first | rfl | exact (rd_one (hM69.rd 1 rfl)))
        have hM73 : Mem [] w w70 [⟨25, 8, (obj b65), 1, (qP 8 v61)⟩, ⟨25, 8, v61, 2, (qRR ha va hb vb)⟩, ⟨25, 8, (obj b52), 1, (qP 7 v48)⟩, ⟨25, 8, v48, 2, (qRR ha va hb vb)⟩, ⟨25, 8, (obj b6), 1, (qR hb vb)⟩, ⟨25, 8, (obj b1), 1, (qR ha va)⟩] := hM72
        have o98 : (Instr.storeAt 25 (pq b65) ((qO 8 v61))).run Try.prog w66 = .ok () w70 ∧ undef = undef := ⟨hr71, rfl⟩
        have o99 : (Instr.loadAt 25 (pq b1)).run Try.prog w70 = .ok ((qA ha va)) w70 := c_loads (ys := (qR ha va)) aE25 (hM73.rd 5 rfl) (cel_obj b1 0) rfl (by intro j u hj; match j, hj with | 0, hj => exact hj | 1, hj => exact hj | 2, hj => exact hj | 3, hj => exact hj | 4, hj => exact hj | 5, hj => exact hj | 6, hj => exact hj | 7, hj => exact hj | n + 8, hj => cases hj)
        obtain ⟨v74, w75, hr76, hM77⟩ := m_lit sT23 hM73 (n := 1) (parts := #[(0, (qA ha va))]) (cs := (qR ha va)) (by decide) (by kernel_rfl) rfl
        have o100 : (Instr.buildSlice 23 1 #[(0, (qA ha va))]).run Try.prog w70 = .ok v74 w75 := hr76
        have o101 : (Instr.build 25 #[(0, .int .i64 9), (7, v74)]).run Try.prog w75 = .ok ((qO 9 v74)) w75 := (by obtain ⟨a0_, m0_, c0_, e0_⟩ : ∃ a m c, v74 = Value.slice a m c := rd_form (hM77.rd 0 rfl); rw [e0_]; kernel_rfl)
        obtain ⟨b78, w79, hr80, hM81⟩ := m_alloc oT25 hM77
        have hM82 : Mem [] w w79 [⟨25, 8, (obj b78), 1, (qP 0 (.slice none 0 0))⟩, ⟨25, 8, v74, 1, (qR ha va)⟩, ⟨25, 8, (obj b65), 1, (qP 8 v61)⟩, ⟨25, 8, v61, 2, (qRR ha va hb vb)⟩, ⟨25, 8, (obj b52), 1, (qP 7 v48)⟩, ⟨25, 8, v48, 2, (qRR ha va hb vb)⟩, ⟨25, 8, (obj b6), 1, (qR hb vb)⟩, ⟨25, 8, (obj b1), 1, (qR ha va)⟩] := hM81
        have o102 : (Instr.alloc 25 true (.tuple #[])).run Try.prog w75 = .ok (pq b78) w79 := hr80
        obtain ⟨w83, hr84, hM85⟩ := c_stores (ys := (qP 9 v74)) aE25 hM82 0 rfl (cel_obj b78 0) rfl (by decide) (by intro u hu; simp at hu; rcases hu with rfl | rfl | rfl | rfl | rfl | rfl | rfl | rfl <;> first | rfl | exact (rd_one (hM82.rd 1 rfl)))
        have hM86 : Mem [] w w83 [⟨25, 8, (obj b78), 1, (qP 9 v74)⟩, ⟨25, 8, v74, 1, (qR ha va)⟩, ⟨25, 8, (obj b65), 1, (qP 8 v61)⟩, ⟨25, 8, v61, 2, (qRR ha va hb vb)⟩, ⟨25, 8, (obj b52), 1, (qP 7 v48)⟩, ⟨25, 8, v48, 2, (qRR ha va hb vb)⟩, ⟨25, 8, (obj b6), 1, (qR hb vb)⟩, ⟨25, 8, (obj b1), 1, (qR ha va)⟩] := hM85
        have o103 : (Instr.storeAt 25 (pq b78) ((qO 9 v74))).run Try.prog w79 = .ok () w83 ∧ undef = undef := ⟨hr84, rfl⟩
        have o104 : (Instr.loadAt 25 (pq b52)).run Try.prog w83 = .ok ((qO 7 v48)) w83 := c_loads (ys := (qP 7 v48)) aE25 (hM86.rd 4 rfl) (cel_obj b52 0) rfl (by intro j u hj; match j, hj with | 0, hj => exact hj | 1, hj => exact hj | 2, hj => exact hj | 3, hj => exact hj | 4, hj => exact hj | 5, hj => exact hj | 6, hj => exact hj | 7, hj => exact hj | n + 8, hj => cases hj)
        have hM105 : Mem [] w w83 [⟨25, 8, (obj b78), 1, (qP 9 v74)⟩, ⟨25, 8, v74, 1, (qR ha va)⟩, ⟨25, 8, (obj b65), 1, (qP 8 v61)⟩, ⟨25, 8, v61, 2, (qRR ha va hb vb)⟩, ⟨25, 8, (obj b52), 1, (qP 7 v48)⟩, ⟨25, 8, v48, 2, (qRR ha va hb vb)⟩, ⟨25, 8, (obj b1), 1, (qR ha va)⟩] := hM86.sub (cc (cc (cc (cc (cc (cc (cn (cc (List.Sublist.refl _)))))))))
        refine GoS.run [2, 5, 6, 7, 8, 9, 10, 11, 12, 55] [.n, .n, .n, .h ((qA ha va)), .h ((qA hb vb)), .u (v48) (w49), .h ((qO 7 v48)), .u (pq b52) (w53), .u (undef) (w57), .n, .n, .n, .h ((qA ha va)), .h ((qA hb vb)), .u (v61) (w62), .h ((qO 8 v61)), .u (pq b65) (w66), .u (undef) (w70), .n, .n, .n, .h ((qA ha va)), .u (v74) (w75), .h ((qO 9 v74)), .u (pq b78) (w79), .u (undef) (w83), .n, .n, .n, .h ((qO 7 v48))] _ [.inRegion (cops (csub (cd Try.f5) [1,1,1,1,1,1,1,1,0])) [1,2,3,4,5,6], .code (csub (cd Try.f5) [1,1,1,1,1,1,1,1,1])] [(2, pq b1), (5, .int .i64 (((sizeQ qa) : Nat) : Int)), (6, .int .i64 (((deepQ qa) : Nat) : Int)), (7, .int .i64 (((sizeQ qb) : Nat) : Int)), (8, .int .i64 (((deepQ qb) : Nat) : Int)), (9, .bool ((checkQ qb) == 0)), (10, pq b52), (11, pq b65), (12, pq b78), (55, (qO 7 v48))] w83 (by kernel_rfl) (.cons o87 (.cons o88 (.cons o89 (.cons o90 (.cons o91 (.cons o92 (.cons o93 (.cons o94 (.cons o95 (.cons o96 (.cons o97 (.cons o98 (.cons o99 (.cons o100 (.cons o101 (.cons o102 (.cons o103 (.cons o104 .nil)))))))))))))))))) ?_
        refine GoS.call [2, 5, 6, 7, 8, 9, 10, 11, 12] 10 #[(qO 7 v48)] (some 56) [.inRegion (cops (csub (cd Try.f5) [1,1,1,1,1,1,1,1,0])) [2,3,4,5,6], .code (csub (cd Try.f5) [1,1,1,1,1,1,1,1,1])] [(2, pq b1), (5, .int .i64 (((sizeQ qa) : Nat) : Int)), (6, .int .i64 (((deepQ qa) : Nat) : Int)), (7, .int .i64 (((sizeQ qb) : Nat) : Int)), (8, .int .i64 (((deepQ qb) : Nat) : Int)), (9, .bool ((checkQ qb) == 0)), (10, pq b52), (11, pq b65), (12, pq b78)] (by kernel_rfl) (size_c (Q.mk (opH 7) [qa, qb]) (opH 7) rfl v48 (RdQ.two2 (opH 7) (show Rd _ 8 v48 2 (recs qnC [⟨ha, va⟩, ⟨hb, vb⟩]) from hM105.rd 5 rfl) hea (hqa.kept hM105.kept) heb (hqb.kept hM105.kept)) (by first | omega | (rw [bulk_two]; omega) | (rw [bulk_one]; omega) | (refine Nat.le_trans (bulk_put (by omega)) (by omega)) | decide +kernel)) ?_
        rintro _ w106 ⟨rfl, m107⟩
        refine ⟨_, rfl, ?_⟩
        have hM108 := Mem.join hM105 m107
        refine GoS.run [2, 5, 6, 7, 8, 9, 10, 11, 12, 13, 14] [.n, .n, .n, .n, .n, .n, .n, .n, .n] _ [.inRegion (cops (csub (cd Try.f5) [1,1,1,1,1,1,1,1,1,0,0])) [0,1,2,3,4,5,6,7,8,9,10,11,12,13,14,15,16,17], .code (csub (cd Try.f5) [1,1,1,1,1,1,1,1,1,0,1]), .code (csub (cd Try.f5) [1,1,1,1,1,1,1,1,1,1])] [(2, pq b1), (5, .int .i64 (((sizeQ qa) : Nat) : Int)), (6, .int .i64 (((deepQ qa) : Nat) : Int)), (7, .int .i64 (((sizeQ qb) : Nat) : Int)), (8, .int .i64 (((deepQ qb) : Nat) : Int)), (9, .bool ((checkQ qb) == 0)), (10, pq b52), (11, pq b65), (12, pq b78), (13, .int .i64 (((sizeQ (Q.mk (opH 7) [qa, qb])) : Nat) : Int)), (14, .int .i64 (((deepQ (Q.mk (opH 7) [qa, qb])) : Nat) : Int))] w106 (by kernel_rfl) .nil ?_
        refine GoS.call [2, 5, 6, 7, 8, 9, 10, 11, 12, 13, 14] 8 #[] (some 59) [.inRegion (cops (csub (cd Try.f5) [1,1,1,1,1,1,1,1,1,0,0])) [1,2,3,4,5,6,7,8,9,10,11,12,13,14,15,16,17], .code (csub (cd Try.f5) [1,1,1,1,1,1,1,1,1,0,1]), .code (csub (cd Try.f5) [1,1,1,1,1,1,1,1,1,1])] [(2, pq b1), (5, .int .i64 (((sizeQ qa) : Nat) : Int)), (6, .int .i64 (((deepQ qa) : Nat) : Int)), (7, .int .i64 (((sizeQ qb) : Nat) : Int)), (8, .int .i64 (((deepQ qb) : Nat) : Int)), (9, .bool ((checkQ qb) == 0)), (10, pq b52), (11, pq b65), (12, pq b78), (13, .int .i64 (((sizeQ (Q.mk (opH 7) [qa, qb])) : Nat) : Int)), (14, .int .i64 (((deepQ (Q.mk (opH 7) [qa, qb])) : Nat) : Int))] (by kernel_rfl) (awake_c w106) ?_
        rintro _ w109 ⟨rfl, m110⟩
        refine ⟨_, rfl, ?_⟩
        have hM111 := Mem.join hM108 m110
        have o112 : (binOp .add 3 (.int .i64 (((sizeQ qa) : Nat) : Int)) (.int .i64 (((sizeQ qb) : Nat) : Int))).run Try.prog w109 = .ok (.int .i64 ((((sizeQ qa) + (sizeQ qb)) : Nat) : Int)) w109 := f_add (by rw [show (((sizeQ qa) : Nat) : Int) + (((sizeQ qb) : Nat) : Int) = ((((sizeQ qa) + (sizeQ qb)) : Nat) : Int) by omega]; exact IntWalk.i64_in _ (by omega))
        have o113 : (binOp .add 3 (.int .i64 ((((sizeQ qa) + (sizeQ qb)) : Nat) : Int)) (.int .i64 1)).run Try.prog w109 = .ok (.int .i64 (((((sizeQ qa) + (sizeQ qb)) + 1) : Nat) : Int)) w109 := f_add (by rw [show ((((sizeQ qa) + (sizeQ qb)) : Nat) : Int) + 1 = (((((sizeQ qa) + (sizeQ qb)) + 1) : Nat) : Int) by omega]; exact IntWalk.i64_in _ (by omega))
        have o114 : (IntKind.i64 = IntKind.i64) ∧ w109 = w109 ∧ Value.bool false = .bool ((((sizeQ (Q.mk (opH 7) [qa, qb])) : Nat) : Int) != (((((sizeQ qa) + (sizeQ qb)) + 1) : Nat) : Int)) := ⟨rfl, rfl, congrArg Value.bool (Eq.symm (bne_eq_false_iff_eq.2 (by rw [size_two])))⟩
        have o115 : (Builtin.max_ #[3, 3] 3 #[.int .i64 (((deepQ qa) : Nat) : Int), .int .i64 (((deepQ qb) : Nat) : Int)]).run Try.prog w109 = .ok (.int .i64 (((max (deepQ qa) (deepQ qb)) : Nat) : Int)) w109 := f_max (by split <;> omega)
        have o116 : (binOp .add 3 (.int .i64 (((max (deepQ qa) (deepQ qb)) : Nat) : Int)) (.int .i64 1)).run Try.prog w109 = .ok (.int .i64 ((((max (deepQ qa) (deepQ qb)) + 1) : Nat) : Int)) w109 := f_add (by rw [show (((max (deepQ qa) (deepQ qb)) : Nat) : Int) + 1 = ((((max (deepQ qa) (deepQ qb)) + 1) : Nat) : Int) by omega]; exact IntWalk.i64_in _ (by omega))
        have o117 : (IntKind.i64 = IntKind.i64) ∧ w109 = w109 ∧ Value.bool false = .bool ((((deepQ (Q.mk (opH 7) [qa, qb])) : Nat) : Int) != ((((max (deepQ qa) (deepQ qb)) + 1) : Nat) : Int)) := ⟨rfl, rfl, congrArg Value.bool (Eq.symm (bne_eq_false_iff_eq.2 (by rw [deep_two])))⟩
        have o118 : (binOp .add 3 (.int .i64 (((sizeQ qa) : Nat) : Int)) (.int .i64 (((sizeQ qb) : Nat) : Int))).run Try.prog w109 = .ok (.int .i64 ((((sizeQ qa) + (sizeQ qb)) : Nat) : Int)) w109 := f_add (by rw [show (((sizeQ qa) : Nat) : Int) + (((sizeQ qb) : Nat) : Int) = ((((sizeQ qa) + (sizeQ qb)) : Nat) : Int) by omega]; exact IntWalk.i64_in _ (by omega))
        have o119 : (binOp .add 3 (.int .i64 ((((sizeQ qa) + (sizeQ qb)) : Nat) : Int)) (.int .i64 1)).run Try.prog w109 = .ok (.int .i64 (((((sizeQ qa) + (sizeQ qb)) + 1) : Nat) : Int)) w109 := f_add (by rw [show ((((sizeQ qa) + (sizeQ qb)) : Nat) : Int) + 1 = (((((sizeQ qa) + (sizeQ qb)) + 1) : Nat) : Int) by omega]; exact IntWalk.i64_in _ (by omega))
        refine GoS.run [2, 5, 6, 8, 9, 10, 11, 12, 82] [.n, .n, .n, .n, .n, .h (.int .i64 ((((sizeQ qa) + (sizeQ qb)) : Nat) : Int)), .h (.int .i64 (((((sizeQ qa) + (sizeQ qb)) + 1) : Nat) : Int)), .h (.bool false), .n, .n, .n, .n, .n, .h (.int .i64 (((max (deepQ qa) (deepQ qb)) : Nat) : Int)), .h (.int .i64 ((((max (deepQ qa) (deepQ qb)) + 1) : Nat) : Int)), .h (.bool false), .n, .n, .n, .n, .n, .n, .n, .n, .h (.int .i64 ((((sizeQ qa) + (sizeQ qb)) : Nat) : Int)), .h (.int .i64 (((((sizeQ qa) + (sizeQ qb)) + 1) : Nat) : Int)), .n, .n] _ [.inRegion (cops (csub (cd Try.f5) [1,1,1,1,1,1,1,1,1,1,0])) [6,7,8,9,10,11,12], .code (csub (cd Try.f5) [1,1,1,1,1,1,1,1,1,1,1])] [(2, pq b1), (5, .int .i64 (((sizeQ qa) : Nat) : Int)), (6, .int .i64 (((deepQ qa) : Nat) : Int)), (8, .int .i64 (((deepQ qb) : Nat) : Int)), (9, .bool ((checkQ qb) == 0)), (10, pq b52), (11, pq b65), (12, pq b78), (82, .bool (decide ((((((sizeQ qa) + (sizeQ qb)) + 1) : Nat) : Int) ≤ 64)))] w109 (by kernel_rfl) (.cons o112 (.cons o113 (.cons o114 (.cons o115 (.cons o116 (.cons o117 (.cons o118 (.cons o119 .nil)))))))) ?_
        refine GoS.fork 82 (decide ((((((sizeQ qa) + (sizeQ qb)) + 1) : Nat) : Int) ≤ 64)) (by kernel_rfl) (fun h120 => ?_) (fun h120 => ?_)
        ·
          have h120p : (((((sizeQ qa) + (sizeQ qb)) + 1) : Nat) : Int) ≤ 64 := of_decide_eq_true h120
          have o121 : (Builtin.max_ #[3, 3] 3 #[.int .i64 (((deepQ qa) : Nat) : Int), .int .i64 (((deepQ qb) : Nat) : Int)]).run Try.prog w109 = .ok (.int .i64 (((max (deepQ qa) (deepQ qb)) : Nat) : Int)) w109 := f_max (by split <;> omega)
          have o122 : (binOp .add 3 (.int .i64 (((max (deepQ qa) (deepQ qb)) : Nat) : Int)) (.int .i64 1)).run Try.prog w109 = .ok (.int .i64 ((((max (deepQ qa) (deepQ qb)) + 1) : Nat) : Int)) w109 := f_add (by rw [show (((max (deepQ qa) (deepQ qb)) : Nat) : Int) + 1 = ((((max (deepQ qa) (deepQ qb)) + 1) : Nat) : Int) by omega]; exact IntWalk.i64_in _ (by omega))
          refine GoS.run [2, 5, 6, 9, 10, 11, 12, 15] [.n, .n, .h (.int .i64 (((max (deepQ qa) (deepQ qb)) : Nat) : Int)), .h (.int .i64 ((((max (deepQ qa) (deepQ qb)) + 1) : Nat) : Int)), .n, .n, .n] _ [.inRegion (cops (csub (cd Try.f5) [1,1,1,1,1,1,1,1,1,1,0])) [], .code (csub (cd Try.f5) [1,1,1,1,1,1,1,1,1,1,1])] [(2, pq b1), (5, .int .i64 (((sizeQ qa) : Nat) : Int)), (6, .int .i64 (((deepQ qa) : Nat) : Int)), (9, .bool ((checkQ qb) == 0)), (10, pq b52), (11, pq b65), (12, pq b78), (15, .bool (decide (((((max (deepQ qa) (deepQ qb)) + 1) : Nat) : Int) ≤ 8)))] w109 (by kernel_rfl) (.cons o121 (.cons o122 .nil)) ?_
          refine GoS.run [2, 5, 6, 9, 10, 11, 12, 15] [.n, .n, .n] _ [.code (csub (cd Try.f5) [1,1,1,1,1,1,1,1,1,1,1,0,0]), .code (csub (cd Try.f5) [1,1,1,1,1,1,1,1,1,1,1,0,1]), .code (csub (cd Try.f5) [1,1,1,1,1,1,1,1,1,1,1,1])] [(2, pq b1), (5, .int .i64 (((sizeQ qa) : Nat) : Int)), (6, .int .i64 (((deepQ qa) : Nat) : Int)), (9, .bool ((checkQ qb) == 0)), (10, pq b52), (11, pq b65), (12, pq b78), (15, .bool (decide (((((max (deepQ qa) (deepQ qb)) + 1) : Nat) : Int) ≤ 8)))] w109 (by kernel_rfl) .nil ?_
          obtain ⟨w123, hw124⟩ : ∃ w_, (w109).drewN 1 = w_ := ⟨_, rfl⟩
          refine GoS.held (fun W_ => Mem [] w W_ [⟨25, 8, (obj b78), 1, (qP 9 v74)⟩, ⟨25, 8, v74, 1, (qR ha va)⟩, ⟨25, 8, (obj b65), 1, (qP 8 v61)⟩, ⟨25, 8, v61, 2, (qRR ha va hb vb)⟩, ⟨25, 8, (obj b52), 1, (qP 7 v48)⟩, ⟨25, 8, v48, 2, (qRR ha va hb vb)⟩, ⟨25, 8, (obj b1), 1, (qR ha va)⟩]) [] 13 (by kernel_rfl) (by kernel_rfl) 15 (by kernel_rfl) ?_
          rw [hw124]
          have hM125 : Mem [] w w123 [⟨25, 8, (obj b78), 1, (qP 9 v74)⟩, ⟨25, 8, v74, 1, (qR ha va)⟩, ⟨25, 8, (obj b65), 1, (qP 8 v61)⟩, ⟨25, 8, v61, 2, (qRR ha va hb vb)⟩, ⟨25, 8, (obj b52), 1, (qP 7 v48)⟩, ⟨25, 8, v48, 2, (qRR ha va hb vb)⟩, ⟨25, 8, (obj b1), 1, (qR ha va)⟩] := hw124 ▸ hM111.ext (Kept.drewN _ _ 1)
          have hS126 : Mem [] w w123 [⟨25, 8, (obj b78), 1, (qP 9 v74)⟩, ⟨25, 8, v74, 1, (qR ha va)⟩, ⟨25, 8, (obj b65), 1, (qP 8 v61)⟩, ⟨25, 8, v61, 2, (qRR ha va hb vb)⟩, ⟨25, 8, (obj b52), 1, (qP 7 v48)⟩, ⟨25, 8, v48, 2, (qRR ha va hb vb)⟩, ⟨25, 8, (obj b1), 1, (qR ha va)⟩] := hM125.sub (cc (cc (cc (cc (cc (cc (cc (List.Sublist.refl _))))))))
          refine GoH.takeF 0 ((qO 7 v48)) (fun W_ => (Instr.loadAt 25 (pq b52)).run Try.prog W_ = .ok ((qO 7 v48)) W_) (some 89) (fun W_ => by kernel_rfl) (fun W_ hW_ => c_loads (ys := (qP 7 v48)) aE25 (hW_.rd 4 rfl) (cel_obj b52 0) rfl (by intro j u hj; match j, hj with | 0, hj => exact hj | 1, hj => exact hj | 2, hj => exact hj | 3, hj => exact hj | 4, hj => exact hj | 5, hj => exact hj | 6, hj => exact hj | 7, hj => exact hj | n + 8, hj => cases hj)) hS126 ?_
          refine GoH.takeV 3 (.bool ((checkQ qb) == 0)) (.bool ((checkQ qb) == 0)) (some 92) (fun W_ => by kernel_rfl) rfl hS126 ?_
          refine GoH.callF 1 13 #[(qO 7 v48)] (some 90) (by kernel_rfl) (check_c (Q.mk (opH 7) [qa, qb]) (opH 7) rfl v48 (RdQ.two2 (opH 7) (show Rd _ 8 v48 2 (recs qnC [⟨ha, va⟩, ⟨hb, vb⟩]) from hM125.rd 5 rfl) hea (hqa.kept hM125.kept) heb (hqb.kept hM125.kept)) (by first | omega | (rw [bulk_two]; omega) | (rw [bulk_one]; omega) | (refine Nat.le_trans (bulk_put (by omega)) (by omega)) | decide +kernel)) ?_
          rintro _ w127 ⟨rfl, m128⟩
          have hM129 := Mem.join hM125 m128
          have hS130 : Mem [] w w127 [⟨25, 8, (obj b78), 1, (qP 9 v74)⟩, ⟨25, 8, v74, 1, (qR ha va)⟩, ⟨25, 8, (obj b65), 1, (qP 8 v61)⟩, ⟨25, 8, v61, 2, (qRR ha va hb vb)⟩, ⟨25, 8, (obj b52), 1, (qP 7 v48)⟩, ⟨25, 8, v48, 2, (qRR ha va hb vb)⟩, ⟨25, 8, (obj b1), 1, (qR ha va)⟩] := hM129.sub (cc (cc (cc (cc (cc (cc (cc (List.Sublist.refl _))))))))
          refine ⟨.int .i64 (checkQ (Q.mk (opH 7) [qa, qb])), rfl, .inr hS130, ?_⟩
          refine GoH.takeV 2 (.bool ((checkQ (Q.mk (opH 7) [qa, qb])) == 0)) (.bool ((checkQ (Q.mk (opH 7) [qa, qb])) == 0)) (some 91) (fun W_ => by kernel_rfl) rfl hS130 ?_
          rcases Bool.eq_false_or_eq_true ((checkQ qb) == 0) with h131 | h131
          ·
            have h131p : (checkQ qb) = 0 := eq_of_beq h131
            refine GoH.takeV 4 (.bool ((checkQ qb) == 0)) (.bool true) (some 93) (fun W_ => by kernel_rfl) (congrArg Value.bool h131) hS130 ?_
            refine GoH.takeV 5 (.bool (decide (((((max (deepQ qa) (deepQ qb)) + 1) : Nat) : Int) ≤ 8))) (.bool (decide (((((max (deepQ qa) (deepQ qb)) + 1) : Nat) : Int) ≤ 8))) (some 94) (fun W_ => by kernel_rfl) rfl hS130 ?_
            refine GoH.takeV 6 (.bool (decide (((((max (deepQ qa) (deepQ qb)) + 1) : Nat) : Int) ≤ 8))) (.bool (decide (((((max (deepQ qa) (deepQ qb)) + 1) : Nat) : Int) ≤ 8))) (some 95) (fun W_ => by kernel_rfl) rfl hS130 ?_
            refine GoH.takeF 7 (.bool false) (fun W_ => Try.prog.underlying 4 = some .bool ∧ W_ = W_ ∧ Value.bool false = .bool (!(((checkQ (Q.mk (opH 7) [qa, qb])) == 0) == (decide (((((max (deepQ qa) (deepQ qb)) + 1) : Nat) : Int) ≤ 8))))) (some 96) (fun W_ => by kernel_rfl) (fun W_ hW_ => ⟨by kernel_rfl, rfl, congrArg Value.bool (Eq.symm (by rw [(show (checkQ (Q.mk (opH 7) [qa, qb]) == 0) = (decide (((((max (deepQ qa) (deepQ qb)) + 1) : Nat) : Int) ≤ 8)) by have J := check_join 7 (.inl rfl) qa qb; rw [Bool.eq_iff_iff, beq_iff_eq, J]; first | (simp; done) | (simp; omega) | omega)]; simp))⟩) hS130 ?_
            refine GoH.takeV 8 (.bool false) (.bool false) (some 97) (fun W_ => by kernel_rfl) rfl hS130 ?_
            refine GoH.takeF 9 ((qO 8 v61)) (fun W_ => (Instr.loadAt 25 (pq b65)).run Try.prog W_ = .ok ((qO 8 v61)) W_) (some 98) (fun W_ => by kernel_rfl) (fun W_ hW_ => c_loads (ys := (qP 8 v61)) aE25 (hW_.rd 2 rfl) (cel_obj b65 0) rfl (by intro j u hj; match j, hj with | 0, hj => exact hj | 1, hj => exact hj | 2, hj => exact hj | 3, hj => exact hj | 4, hj => exact hj | 5, hj => exact hj | 6, hj => exact hj | 7, hj => exact hj | n + 8, hj => cases hj)) hS130 ?_
            refine GoH.takeF 11 ((qO 7 v48)) (fun W_ => (Instr.loadAt 25 (pq b52)).run Try.prog W_ = .ok ((qO 7 v48)) W_) (some 100) (fun W_ => by kernel_rfl) (fun W_ hW_ => c_loads (ys := (qP 7 v48)) aE25 (hW_.rd 4 rfl) (cel_obj b52 0) rfl (by intro j u hj; match j, hj with | 0, hj => exact hj | 1, hj => exact hj | 2, hj => exact hj | 3, hj => exact hj | 4, hj => exact hj | 5, hj => exact hj | 6, hj => exact hj | 7, hj => exact hj | n + 8, hj => cases hj)) hS130 ?_
            refine GoH.callF 10 13 #[(qO 8 v61)] (some 99) (by kernel_rfl) (check_c (Q.mk (opH 8) [qa, qb]) (opH 8) rfl v61 (RdQ.two2 (opH 8) (show Rd _ 8 v61 2 (recs qnC [⟨ha, va⟩, ⟨hb, vb⟩]) from hM129.rd 3 rfl) hea (hqa.kept hM129.kept) heb (hqb.kept hM129.kept)) (by first | omega | (rw [bulk_two]; omega) | (rw [bulk_one]; omega) | (refine Nat.le_trans (bulk_put (by omega)) (by omega)) | decide +kernel)) ?_
            rintro _ w132 ⟨rfl, m133⟩
            have hM134 := Mem.join hM129 m133
            have hS135 : Mem [] w w132 [⟨25, 8, (obj b78), 1, (qP 9 v74)⟩, ⟨25, 8, v74, 1, (qR ha va)⟩, ⟨25, 8, (obj b65), 1, (qP 8 v61)⟩, ⟨25, 8, v61, 2, (qRR ha va hb vb)⟩, ⟨25, 8, (obj b52), 1, (qP 7 v48)⟩, ⟨25, 8, v48, 2, (qRR ha va hb vb)⟩, ⟨25, 8, (obj b1), 1, (qR ha va)⟩] := hM134.sub (cc (cc (cc (cc (cc (cc (cc (List.Sublist.refl _))))))))
            refine ⟨.int .i64 (checkQ (Q.mk (opH 8) [qa, qb])), rfl, .inr hS135, ?_⟩
            refine GoH.callF 12 13 #[(qO 7 v48)] (some 101) (by kernel_rfl) (check_c (Q.mk (opH 7) [qa, qb]) (opH 7) rfl v48 (RdQ.two2 (opH 7) (show Rd _ 8 v48 2 (recs qnC [⟨ha, va⟩, ⟨hb, vb⟩]) from hM134.rd 5 rfl) hea (hqa.kept hM134.kept) heb (hqb.kept hM134.kept)) (by first | omega | (rw [bulk_two]; omega) | (rw [bulk_one]; omega) | (refine Nat.le_trans (bulk_put (by omega)) (by omega)) | decide +kernel)) ?_
            rintro _ w136 ⟨rfl, m137⟩
            have hM138 := Mem.join hM134 m137
            have hS139 : Mem [] w w136 [⟨25, 8, (obj b78), 1, (qP 9 v74)⟩, ⟨25, 8, v74, 1, (qR ha va)⟩, ⟨25, 8, (obj b65), 1, (qP 8 v61)⟩, ⟨25, 8, v61, 2, (qRR ha va hb vb)⟩, ⟨25, 8, (obj b52), 1, (qP 7 v48)⟩, ⟨25, 8, v48, 2, (qRR ha va hb vb)⟩, ⟨25, 8, (obj b1), 1, (qR ha va)⟩] := hM138.sub (cc (cc (cc (cc (cc (cc (cc (List.Sublist.refl _))))))))
            refine ⟨.int .i64 (checkQ (Q.mk (opH 7) [qa, qb])), rfl, .inr hS139, ?_⟩
            refine GoH.takeF 13 (.bool false) (fun W_ => (IntKind.i64 = IntKind.i64) ∧ W_ = W_ ∧ Value.bool false = .bool ((checkQ (Q.mk (opH 8) [qa, qb])) != (checkQ (Q.mk (opH 7) [qa, qb])))) (some 102) (fun W_ => by kernel_rfl) (fun W_ hW_ => ⟨rfl, rfl, congrArg Value.bool (Eq.symm (bne_eq_false_iff_eq.2 (check_or qa qb)))⟩) hS139 ?_
            refine GoH.takeV 14 (.bool false) (.bool false) (some 103) (fun W_ => by kernel_rfl) rfl hS139 ?_
            refine GoH.done [2, 5, 6, 12, 103] [(2, pq b1), (5, .int .i64 (((sizeQ qa) : Nat) : Int)), (6, .int .i64 (((deepQ qa) : Nat) : Int)), (12, pq b78), (103, .bool false)] (by kernel_rfl) (by kernel_rfl) ?_
            have hM140 : Mem [] w w136 [⟨25, 8, (obj b78), 1, (qP 9 v74)⟩, ⟨25, 8, v74, 1, (qR ha va)⟩, ⟨25, 8, (obj b1), 1, (qR ha va)⟩] := hM138.sub (cc (cc (cn (cn (cn (cn (cc (List.Sublist.refl _))))))))
            refine GoS.run [2, 5, 6, 12] [.n, .n, .n] _ [.code (csub (cd Try.f5) [1,1,1,1,1,1,1,1,1,1,1,1,0]), .code (csub (cd Try.f5) [1,1,1,1,1,1,1,1,1,1,1,1,1])] [(2, pq b1), (5, .int .i64 (((sizeQ qa) : Nat) : Int)), (6, .int .i64 (((deepQ qa) : Nat) : Int)), (12, pq b78)] w136 (by kernel_rfl) .nil ?_
            obtain ⟨w141, hw142⟩ : ∃ w_, (w136).drewN 1 = w_ := ⟨_, rfl⟩
            refine GoS.held (fun W_ => Mem [] w W_ [⟨25, 8, (obj b78), 1, (qP 9 v74)⟩, ⟨25, 8, v74, 1, (qR ha va)⟩, ⟨25, 8, (obj b1), 1, (qR ha va)⟩]) [] 15 (by kernel_rfl) (by kernel_rfl) 18 (by kernel_rfl) ?_
            rw [hw142]
            have hM143 : Mem [] w w141 [⟨25, 8, (obj b78), 1, (qP 9 v74)⟩, ⟨25, 8, v74, 1, (qR ha va)⟩, ⟨25, 8, (obj b1), 1, (qR ha va)⟩] := hw142 ▸ hM140.ext (Kept.drewN _ _ 1)
            have hS144 : Mem [] w w141 [⟨25, 8, (obj b78), 1, (qP 9 v74)⟩, ⟨25, 8, v74, 1, (qR ha va)⟩, ⟨25, 8, (obj b1), 1, (qR ha va)⟩] := hM143.sub (cc (cc (cc (List.Sublist.refl _))))
            refine GoH.takeF 0 ((qO 9 v74)) (fun W_ => (Instr.loadAt 25 (pq b78)).run Try.prog W_ = .ok ((qO 9 v74)) W_) (some 104) (fun W_ => by kernel_rfl) (fun W_ hW_ => c_loads (ys := (qP 9 v74)) aE25 (hW_.rd 0 rfl) (cel_obj b78 0) rfl (by intro j u hj; match j, hj with | 0, hj => exact hj | 1, hj => exact hj | 2, hj => exact hj | 3, hj => exact hj | 4, hj => exact hj | 5, hj => exact hj | 6, hj => exact hj | 7, hj => exact hj | n + 8, hj => cases hj)) hS144 ?_
            refine GoH.takeF 3 ((qA ha va)) (fun W_ => (Instr.loadAt 25 (pq b1)).run Try.prog W_ = .ok ((qA ha va)) W_) (some 107) (fun W_ => by kernel_rfl) (fun W_ hW_ => c_loads (ys := (qR ha va)) aE25 (hW_.rd 2 rfl) (cel_obj b1 0) rfl (by intro j u hj; match j, hj with | 0, hj => exact hj | 1, hj => exact hj | 2, hj => exact hj | 3, hj => exact hj | 4, hj => exact hj | 5, hj => exact hj | 6, hj => exact hj | 7, hj => exact hj | n + 8, hj => cases hj)) hS144 ?_
            refine GoH.callF 1 13 #[(qO 9 v74)] (some 105) (by kernel_rfl) (check_c (Q.mk (opH 9) [qa]) (opH 9) rfl v74 (RdQ.one1 (opH 9) (show Rd _ 8 v74 1 (recs qnC [⟨ha, va⟩]) from hM143.rd 1 rfl) hea (hqa.kept hM143.kept)) (by first | omega | (rw [bulk_two]; omega) | (rw [bulk_one]; omega) | (refine Nat.le_trans (bulk_put (by omega)) (by omega)) | decide +kernel)) ?_
            rintro _ w145 ⟨rfl, m146⟩
            have hM147 := Mem.join hM143 m146
            have hS148 : Mem [] w w145 [⟨25, 8, (obj b78), 1, (qP 9 v74)⟩, ⟨25, 8, v74, 1, (qR ha va)⟩, ⟨25, 8, (obj b1), 1, (qR ha va)⟩] := hM147.sub (cc (cc (cc (List.Sublist.refl _))))
            refine ⟨.int .i64 (checkQ (Q.mk (opH 9) [qa])), rfl, .inr hS148, ?_⟩
            refine GoH.takeV 2 (.bool ((checkQ (Q.mk (opH 9) [qa])) == 0)) (.bool ((checkQ (Q.mk (opH 9) [qa])) == 0)) (some 106) (fun W_ => by kernel_rfl) rfl hS148 ?_
            refine GoH.callF 4 13 #[(qA ha va)] (some 108) (by kernel_rfl) (check_c qa ha hea va (hqa.kept hM147.kept) (by first | omega | (rw [bulk_two]; omega) | (rw [bulk_one]; omega) | (refine Nat.le_trans (bulk_put (by omega)) (by omega)) | decide +kernel)) ?_
            rintro _ w149 ⟨rfl, m150⟩
            have hM151 := Mem.join hM147 m150
            have hS152 : Mem [] w w149 [⟨25, 8, (obj b78), 1, (qP 9 v74)⟩, ⟨25, 8, v74, 1, (qR ha va)⟩, ⟨25, 8, (obj b1), 1, (qR ha va)⟩] := hM151.sub (cc (cc (cc (List.Sublist.refl _))))
            refine ⟨.int .i64 (checkQ qa), rfl, .inr hS152, ?_⟩
            refine GoH.takeV 5 (.bool ((checkQ qa) == 0)) (.bool ((checkQ qa) == 0)) (some 109) (fun W_ => by kernel_rfl) rfl hS152 ?_
            refine GoH.takeV 6 (.bool ((checkQ qa) == 0)) (.bool true) (some 110) (fun W_ => by kernel_rfl) (congrArg Value.bool h43) hS152 ?_
            refine GoH.takeV 7 (.int .i64 (((sizeQ qa) : Nat) : Int)) (.int .i64 (((sizeQ qa) : Nat) : Int)) (some 111) (fun W_ => by kernel_rfl) rfl hS152 ?_
            refine GoH.takeF 8 (.int .i64 ((((sizeQ qa) + 1) : Nat) : Int)) (fun W_ => (binOp .add 3 (.int .i64 (((sizeQ qa) : Nat) : Int)) (.int .i64 1)).run Try.prog W_ = .ok (.int .i64 ((((sizeQ qa) + 1) : Nat) : Int)) W_) (some 112) (fun W_ => by kernel_rfl) (fun W_ hW_ => f_add (by rw [show (((sizeQ qa) : Nat) : Int) + 1 = ((((sizeQ qa) + 1) : Nat) : Int) by omega]; exact IntWalk.i64_in _ (by omega))) hS152 ?_
            refine GoH.takeV 9 (.bool (decide (((((sizeQ qa) + 1) : Nat) : Int) ≤ 64))) (.bool (decide (((((sizeQ qa) + 1) : Nat) : Int) ≤ 64))) (some 113) (fun W_ => by kernel_rfl) rfl hS152 ?_
            refine GoH.takeV 10 (.bool (decide (((((sizeQ qa) + 1) : Nat) : Int) ≤ 64))) (.bool (decide (((((sizeQ qa) + 1) : Nat) : Int) ≤ 64))) (some 114) (fun W_ => by kernel_rfl) rfl hS152 ?_
            rcases Bool.eq_false_or_eq_true (decide (((((sizeQ qa) + 1) : Nat) : Int) ≤ 64)) with h153 | h153
            ·
              have h153p : ((((sizeQ qa) + 1) : Nat) : Int) ≤ 64 := of_decide_eq_true h153
              refine GoH.takeV 11 (.bool (decide (((((sizeQ qa) + 1) : Nat) : Int) ≤ 64))) (.bool true) (some 115) (fun W_ => by kernel_rfl) (congrArg Value.bool h153) hS152 ?_
              refine GoH.takeV 12 (.int .i64 (((deepQ qa) : Nat) : Int)) (.int .i64 (((deepQ qa) : Nat) : Int)) (some 116) (fun W_ => by kernel_rfl) rfl hS152 ?_
              refine GoH.takeF 13 (.int .i64 ((((deepQ qa) + 1) : Nat) : Int)) (fun W_ => (binOp .add 3 (.int .i64 (((deepQ qa) : Nat) : Int)) (.int .i64 1)).run Try.prog W_ = .ok (.int .i64 ((((deepQ qa) + 1) : Nat) : Int)) W_) (some 117) (fun W_ => by kernel_rfl) (fun W_ hW_ => f_add (by rw [show (((deepQ qa) : Nat) : Int) + 1 = ((((deepQ qa) + 1) : Nat) : Int) by omega]; exact IntWalk.i64_in _ (by omega))) hS152 ?_
              refine GoH.takeV 14 (.bool (decide (((((deepQ qa) + 1) : Nat) : Int) ≤ 8))) (.bool (decide (((((deepQ qa) + 1) : Nat) : Int) ≤ 8))) (some 118) (fun W_ => by kernel_rfl) rfl hS152 ?_
              refine GoH.takeV 15 (.bool (decide (((((deepQ qa) + 1) : Nat) : Int) ≤ 8))) (.bool (decide (((((deepQ qa) + 1) : Nat) : Int) ≤ 8))) (some 119) (fun W_ => by kernel_rfl) rfl hS152 ?_
              refine GoH.takeF 16 (.bool true) (fun W_ => Try.prog.underlying 4 = some .bool ∧ W_ = W_ ∧ Value.bool true = .bool (((checkQ (Q.mk (opH 9) [qa])) == 0) == (decide (((((deepQ qa) + 1) : Nat) : Int) ≤ 8)))) (some 120) (fun W_ => by kernel_rfl) (fun W_ hW_ => ⟨by kernel_rfl, rfl, congrArg Value.bool (Eq.symm (by rw [(show (checkQ (Q.mk (opH 9) [qa]) == 0) = (decide (((((deepQ qa) + 1) : Nat) : Int) ≤ 8)) by have J := check_not qa; rw [Bool.eq_iff_iff, beq_iff_eq, J]; first | (simp; done) | (simp; omega) | omega)]; simp))⟩) hS152 ?_
              refine GoH.takeV 17 (.bool true) (.bool true) (some 4) (fun W_ => by kernel_rfl) rfl hS152 ?_
              refine GoH.done [4] [(4, .bool true)] (by kernel_rfl) (by kernel_rfl) ?_
              have hM154 : Mem [] w w149 [] := hM151.sub (cn (cn (cn (List.Sublist.refl _))))
              refine GoS.ret (fn := Try.f5) (v := (.bool true)) Try.func5 (by kernel_rfl) ?_
              rw [hR]
              exact ⟨rfl, (hM154.sub (List.nil_sublist _)).below⟩
            ·
              have h153p : ¬ (((((sizeQ qa) + 1) : Nat) : Int) ≤ 64) := of_decide_eq_false h153
              refine GoH.takeV 11 (.bool (decide (((((sizeQ qa) + 1) : Nat) : Int) ≤ 64))) (.bool false) (some 115) (fun W_ => by kernel_rfl) (congrArg Value.bool h153) hS152 ?_
              refine GoH.skipF 12 (some 116) (by kernel_rfl) hS152 ?_
              refine GoH.skipF 13 (some 117) (by kernel_rfl) hS152 ?_
              refine GoH.skipF 14 (some 118) (by kernel_rfl) hS152 ?_
              refine GoH.takeV 15 (.bool false) (.bool false) (some 119) (fun W_ => by kernel_rfl) rfl hS152 ?_
              refine GoH.takeF 16 (.bool true) (fun W_ => Try.prog.underlying 4 = some .bool ∧ W_ = W_ ∧ Value.bool true = .bool (((checkQ (Q.mk (opH 9) [qa])) == 0) == false)) (some 120) (fun W_ => by kernel_rfl) (fun W_ hW_ => ⟨by kernel_rfl, rfl, congrArg Value.bool (Eq.symm (by rw [(show (checkQ (Q.mk (opH 9) [qa]) == 0) = false by have J := check_not qa; rw [Bool.eq_iff_iff, beq_iff_eq, J]; first | (simp; done) | (simp; omega) | omega)]; simp))⟩) hS152 ?_
              refine GoH.takeV 17 (.bool true) (.bool true) (some 4) (fun W_ => by kernel_rfl) rfl hS152 ?_
              refine GoH.done [4] [(4, .bool true)] (by kernel_rfl) (by kernel_rfl) ?_
              have hM155 : Mem [] w w149 [] := hM151.sub (cn (cn (cn (List.Sublist.refl _))))
              refine GoS.ret (fn := Try.f5) (v := (.bool true)) Try.func5 (by kernel_rfl) ?_
              rw [hR]
              exact ⟨rfl, (hM155.sub (List.nil_sublist _)).below⟩
          ·
            have h131p : ¬ ((checkQ qb) = 0) := p_ne h131
            refine GoH.takeV 4 (.bool ((checkQ qb) == 0)) (.bool false) (some 93) (fun W_ => by kernel_rfl) (congrArg Value.bool h131) hS130 ?_
            refine GoH.skipF 5 (some 94) (by kernel_rfl) hS130 ?_
            refine GoH.takeV 6 (.bool false) (.bool false) (some 95) (fun W_ => by kernel_rfl) rfl hS130 ?_
            refine GoH.takeF 7 (.bool false) (fun W_ => Try.prog.underlying 4 = some .bool ∧ W_ = W_ ∧ Value.bool false = .bool (!(((checkQ (Q.mk (opH 7) [qa, qb])) == 0) == false))) (some 96) (fun W_ => by kernel_rfl) (fun W_ hW_ => ⟨by kernel_rfl, rfl, congrArg Value.bool (Eq.symm (by rw [(show (checkQ (Q.mk (opH 7) [qa, qb]) == 0) = false by have J := check_join 7 (.inl rfl) qa qb; rw [Bool.eq_iff_iff, beq_iff_eq, J]; first | (simp; done) | (simp; omega) | omega)]; simp))⟩) hS130 ?_
            refine GoH.takeV 8 (.bool false) (.bool false) (some 97) (fun W_ => by kernel_rfl) rfl hS130 ?_
            refine GoH.takeF 9 ((qO 8 v61)) (fun W_ => (Instr.loadAt 25 (pq b65)).run Try.prog W_ = .ok ((qO 8 v61)) W_) (some 98) (fun W_ => by kernel_rfl) (fun W_ hW_ => c_loads (ys := (qP 8 v61)) aE25 (hW_.rd 2 rfl) (cel_obj b65 0) rfl (by intro j u hj; match j, hj with | 0, hj => exact hj | 1, hj => exact hj | 2, hj => exact hj | 3, hj => exact hj | 4, hj => exact hj | 5, hj => exact hj | 6, hj => exact hj | 7, hj => exact hj | n + 8, hj => cases hj)) hS130 ?_
            refine GoH.takeF 11 ((qO 7 v48)) (fun W_ => (Instr.loadAt 25 (pq b52)).run Try.prog W_ = .ok ((qO 7 v48)) W_) (some 100) (fun W_ => by kernel_rfl) (fun W_ hW_ => c_loads (ys := (qP 7 v48)) aE25 (hW_.rd 4 rfl) (cel_obj b52 0) rfl (by intro j u hj; match j, hj with | 0, hj => exact hj | 1, hj => exact hj | 2, hj => exact hj | 3, hj => exact hj | 4, hj => exact hj | 5, hj => exact hj | 6, hj => exact hj | 7, hj => exact hj | n + 8, hj => cases hj)) hS130 ?_
            refine GoH.callF 10 13 #[(qO 8 v61)] (some 99) (by kernel_rfl) (check_c (Q.mk (opH 8) [qa, qb]) (opH 8) rfl v61 (RdQ.two2 (opH 8) (show Rd _ 8 v61 2 (recs qnC [⟨ha, va⟩, ⟨hb, vb⟩]) from hM129.rd 3 rfl) hea (hqa.kept hM129.kept) heb (hqb.kept hM129.kept)) (by first | omega | (rw [bulk_two]; omega) | (rw [bulk_one]; omega) | (refine Nat.le_trans (bulk_put (by omega)) (by omega)) | decide +kernel)) ?_
            rintro _ w156 ⟨rfl, m157⟩
            have hM158 := Mem.join hM129 m157
            have hS159 : Mem [] w w156 [⟨25, 8, (obj b78), 1, (qP 9 v74)⟩, ⟨25, 8, v74, 1, (qR ha va)⟩, ⟨25, 8, (obj b65), 1, (qP 8 v61)⟩, ⟨25, 8, v61, 2, (qRR ha va hb vb)⟩, ⟨25, 8, (obj b52), 1, (qP 7 v48)⟩, ⟨25, 8, v48, 2, (qRR ha va hb vb)⟩, ⟨25, 8, (obj b1), 1, (qR ha va)⟩] := hM158.sub (cc (cc (cc (cc (cc (cc (cc (List.Sublist.refl _))))))))
            refine ⟨.int .i64 (checkQ (Q.mk (opH 8) [qa, qb])), rfl, .inr hS159, ?_⟩
            refine GoH.callF 12 13 #[(qO 7 v48)] (some 101) (by kernel_rfl) (check_c (Q.mk (opH 7) [qa, qb]) (opH 7) rfl v48 (RdQ.two2 (opH 7) (show Rd _ 8 v48 2 (recs qnC [⟨ha, va⟩, ⟨hb, vb⟩]) from hM158.rd 5 rfl) hea (hqa.kept hM158.kept) heb (hqb.kept hM158.kept)) (by first | omega | (rw [bulk_two]; omega) | (rw [bulk_one]; omega) | (refine Nat.le_trans (bulk_put (by omega)) (by omega)) | decide +kernel)) ?_
            rintro _ w160 ⟨rfl, m161⟩
            have hM162 := Mem.join hM158 m161
            have hS163 : Mem [] w w160 [⟨25, 8, (obj b78), 1, (qP 9 v74)⟩, ⟨25, 8, v74, 1, (qR ha va)⟩, ⟨25, 8, (obj b65), 1, (qP 8 v61)⟩, ⟨25, 8, v61, 2, (qRR ha va hb vb)⟩, ⟨25, 8, (obj b52), 1, (qP 7 v48)⟩, ⟨25, 8, v48, 2, (qRR ha va hb vb)⟩, ⟨25, 8, (obj b1), 1, (qR ha va)⟩] := hM162.sub (cc (cc (cc (cc (cc (cc (cc (List.Sublist.refl _))))))))
            refine ⟨.int .i64 (checkQ (Q.mk (opH 7) [qa, qb])), rfl, .inr hS163, ?_⟩
            refine GoH.takeF 13 (.bool false) (fun W_ => (IntKind.i64 = IntKind.i64) ∧ W_ = W_ ∧ Value.bool false = .bool ((checkQ (Q.mk (opH 8) [qa, qb])) != (checkQ (Q.mk (opH 7) [qa, qb])))) (some 102) (fun W_ => by kernel_rfl) (fun W_ hW_ => ⟨rfl, rfl, congrArg Value.bool (Eq.symm (bne_eq_false_iff_eq.2 (check_or qa qb)))⟩) hS163 ?_
            refine GoH.takeV 14 (.bool false) (.bool false) (some 103) (fun W_ => by kernel_rfl) rfl hS163 ?_
            refine GoH.done [2, 5, 6, 12, 103] [(2, pq b1), (5, .int .i64 (((sizeQ qa) : Nat) : Int)), (6, .int .i64 (((deepQ qa) : Nat) : Int)), (12, pq b78), (103, .bool false)] (by kernel_rfl) (by kernel_rfl) ?_
            have hM164 : Mem [] w w160 [⟨25, 8, (obj b78), 1, (qP 9 v74)⟩, ⟨25, 8, v74, 1, (qR ha va)⟩, ⟨25, 8, (obj b1), 1, (qR ha va)⟩] := hM162.sub (cc (cc (cn (cn (cn (cn (cc (List.Sublist.refl _))))))))
            refine GoS.run [2, 5, 6, 12] [.n, .n, .n] _ [.code (csub (cd Try.f5) [1,1,1,1,1,1,1,1,1,1,1,1,0]), .code (csub (cd Try.f5) [1,1,1,1,1,1,1,1,1,1,1,1,1])] [(2, pq b1), (5, .int .i64 (((sizeQ qa) : Nat) : Int)), (6, .int .i64 (((deepQ qa) : Nat) : Int)), (12, pq b78)] w160 (by kernel_rfl) .nil ?_
            obtain ⟨w165, hw166⟩ : ∃ w_, (w160).drewN 1 = w_ := ⟨_, rfl⟩
            refine GoS.held (fun W_ => Mem [] w W_ [⟨25, 8, (obj b78), 1, (qP 9 v74)⟩, ⟨25, 8, v74, 1, (qR ha va)⟩, ⟨25, 8, (obj b1), 1, (qR ha va)⟩]) [] 15 (by kernel_rfl) (by kernel_rfl) 18 (by kernel_rfl) ?_
            rw [hw166]
            have hM167 : Mem [] w w165 [⟨25, 8, (obj b78), 1, (qP 9 v74)⟩, ⟨25, 8, v74, 1, (qR ha va)⟩, ⟨25, 8, (obj b1), 1, (qR ha va)⟩] := hw166 ▸ hM164.ext (Kept.drewN _ _ 1)
            have hS168 : Mem [] w w165 [⟨25, 8, (obj b78), 1, (qP 9 v74)⟩, ⟨25, 8, v74, 1, (qR ha va)⟩, ⟨25, 8, (obj b1), 1, (qR ha va)⟩] := hM167.sub (cc (cc (cc (List.Sublist.refl _))))
            refine GoH.takeF 0 ((qO 9 v74)) (fun W_ => (Instr.loadAt 25 (pq b78)).run Try.prog W_ = .ok ((qO 9 v74)) W_) (some 104) (fun W_ => by kernel_rfl) (fun W_ hW_ => c_loads (ys := (qP 9 v74)) aE25 (hW_.rd 0 rfl) (cel_obj b78 0) rfl (by intro j u hj; match j, hj with | 0, hj => exact hj | 1, hj => exact hj | 2, hj => exact hj | 3, hj => exact hj | 4, hj => exact hj | 5, hj => exact hj | 6, hj => exact hj | 7, hj => exact hj | n + 8, hj => cases hj)) hS168 ?_
            refine GoH.takeF 3 ((qA ha va)) (fun W_ => (Instr.loadAt 25 (pq b1)).run Try.prog W_ = .ok ((qA ha va)) W_) (some 107) (fun W_ => by kernel_rfl) (fun W_ hW_ => c_loads (ys := (qR ha va)) aE25 (hW_.rd 2 rfl) (cel_obj b1 0) rfl (by intro j u hj; match j, hj with | 0, hj => exact hj | 1, hj => exact hj | 2, hj => exact hj | 3, hj => exact hj | 4, hj => exact hj | 5, hj => exact hj | 6, hj => exact hj | 7, hj => exact hj | n + 8, hj => cases hj)) hS168 ?_
            refine GoH.callF 1 13 #[(qO 9 v74)] (some 105) (by kernel_rfl) (check_c (Q.mk (opH 9) [qa]) (opH 9) rfl v74 (RdQ.one1 (opH 9) (show Rd _ 8 v74 1 (recs qnC [⟨ha, va⟩]) from hM167.rd 1 rfl) hea (hqa.kept hM167.kept)) (by first | omega | (rw [bulk_two]; omega) | (rw [bulk_one]; omega) | (refine Nat.le_trans (bulk_put (by omega)) (by omega)) | decide +kernel)) ?_
            rintro _ w169 ⟨rfl, m170⟩
            have hM171 := Mem.join hM167 m170
            have hS172 : Mem [] w w169 [⟨25, 8, (obj b78), 1, (qP 9 v74)⟩, ⟨25, 8, v74, 1, (qR ha va)⟩, ⟨25, 8, (obj b1), 1, (qR ha va)⟩] := hM171.sub (cc (cc (cc (List.Sublist.refl _))))
            refine ⟨.int .i64 (checkQ (Q.mk (opH 9) [qa])), rfl, .inr hS172, ?_⟩
            refine GoH.takeV 2 (.bool ((checkQ (Q.mk (opH 9) [qa])) == 0)) (.bool ((checkQ (Q.mk (opH 9) [qa])) == 0)) (some 106) (fun W_ => by kernel_rfl) rfl hS172 ?_
            refine GoH.callF 4 13 #[(qA ha va)] (some 108) (by kernel_rfl) (check_c qa ha hea va (hqa.kept hM171.kept) (by first | omega | (rw [bulk_two]; omega) | (rw [bulk_one]; omega) | (refine Nat.le_trans (bulk_put (by omega)) (by omega)) | decide +kernel)) ?_
            rintro _ w173 ⟨rfl, m174⟩
            have hM175 := Mem.join hM171 m174
            have hS176 : Mem [] w w173 [⟨25, 8, (obj b78), 1, (qP 9 v74)⟩, ⟨25, 8, v74, 1, (qR ha va)⟩, ⟨25, 8, (obj b1), 1, (qR ha va)⟩] := hM175.sub (cc (cc (cc (List.Sublist.refl _))))
            refine ⟨.int .i64 (checkQ qa), rfl, .inr hS176, ?_⟩
            refine GoH.takeV 5 (.bool ((checkQ qa) == 0)) (.bool ((checkQ qa) == 0)) (some 109) (fun W_ => by kernel_rfl) rfl hS176 ?_
            refine GoH.takeV 6 (.bool ((checkQ qa) == 0)) (.bool true) (some 110) (fun W_ => by kernel_rfl) (congrArg Value.bool h43) hS176 ?_
            refine GoH.takeV 7 (.int .i64 (((sizeQ qa) : Nat) : Int)) (.int .i64 (((sizeQ qa) : Nat) : Int)) (some 111) (fun W_ => by kernel_rfl) rfl hS176 ?_
            refine GoH.takeF 8 (.int .i64 ((((sizeQ qa) + 1) : Nat) : Int)) (fun W_ => (binOp .add 3 (.int .i64 (((sizeQ qa) : Nat) : Int)) (.int .i64 1)).run Try.prog W_ = .ok (.int .i64 ((((sizeQ qa) + 1) : Nat) : Int)) W_) (some 112) (fun W_ => by kernel_rfl) (fun W_ hW_ => f_add (by rw [show (((sizeQ qa) : Nat) : Int) + 1 = ((((sizeQ qa) + 1) : Nat) : Int) by omega]; exact IntWalk.i64_in _ (by omega))) hS176 ?_
            refine GoH.takeV 9 (.bool (decide (((((sizeQ qa) + 1) : Nat) : Int) ≤ 64))) (.bool (decide (((((sizeQ qa) + 1) : Nat) : Int) ≤ 64))) (some 113) (fun W_ => by kernel_rfl) rfl hS176 ?_
            refine GoH.takeV 10 (.bool (decide (((((sizeQ qa) + 1) : Nat) : Int) ≤ 64))) (.bool (decide (((((sizeQ qa) + 1) : Nat) : Int) ≤ 64))) (some 114) (fun W_ => by kernel_rfl) rfl hS176 ?_
            rcases Bool.eq_false_or_eq_true (decide (((((sizeQ qa) + 1) : Nat) : Int) ≤ 64)) with h177 | h177
            ·
              have h177p : ((((sizeQ qa) + 1) : Nat) : Int) ≤ 64 := of_decide_eq_true h177
              refine GoH.takeV 11 (.bool (decide (((((sizeQ qa) + 1) : Nat) : Int) ≤ 64))) (.bool true) (some 115) (fun W_ => by kernel_rfl) (congrArg Value.bool h177) hS176 ?_
              refine GoH.takeV 12 (.int .i64 (((deepQ qa) : Nat) : Int)) (.int .i64 (((deepQ qa) : Nat) : Int)) (some 116) (fun W_ => by kernel_rfl) rfl hS176 ?_
              refine GoH.takeF 13 (.int .i64 ((((deepQ qa) + 1) : Nat) : Int)) (fun W_ => (binOp .add 3 (.int .i64 (((deepQ qa) : Nat) : Int)) (.int .i64 1)).run Try.prog W_ = .ok (.int .i64 ((((deepQ qa) + 1) : Nat) : Int)) W_) (some 117) (fun W_ => by kernel_rfl) (fun W_ hW_ => f_add (by rw [show (((deepQ qa) : Nat) : Int) + 1 = ((((deepQ qa) + 1) : Nat) : Int) by omega]; exact IntWalk.i64_in _ (by omega))) hS176 ?_
              refine GoH.takeV 14 (.bool (decide (((((deepQ qa) + 1) : Nat) : Int) ≤ 8))) (.bool (decide (((((deepQ qa) + 1) : Nat) : Int) ≤ 8))) (some 118) (fun W_ => by kernel_rfl) rfl hS176 ?_
              refine GoH.takeV 15 (.bool (decide (((((deepQ qa) + 1) : Nat) : Int) ≤ 8))) (.bool (decide (((((deepQ qa) + 1) : Nat) : Int) ≤ 8))) (some 119) (fun W_ => by kernel_rfl) rfl hS176 ?_
              refine GoH.takeF 16 (.bool true) (fun W_ => Try.prog.underlying 4 = some .bool ∧ W_ = W_ ∧ Value.bool true = .bool (((checkQ (Q.mk (opH 9) [qa])) == 0) == (decide (((((deepQ qa) + 1) : Nat) : Int) ≤ 8)))) (some 120) (fun W_ => by kernel_rfl) (fun W_ hW_ => ⟨by kernel_rfl, rfl, congrArg Value.bool (Eq.symm (by rw [(show (checkQ (Q.mk (opH 9) [qa]) == 0) = (decide (((((deepQ qa) + 1) : Nat) : Int) ≤ 8)) by have J := check_not qa; rw [Bool.eq_iff_iff, beq_iff_eq, J]; first | (simp; done) | (simp; omega) | omega)]; simp))⟩) hS176 ?_
              refine GoH.takeV 17 (.bool true) (.bool true) (some 4) (fun W_ => by kernel_rfl) rfl hS176 ?_
              refine GoH.done [4] [(4, .bool true)] (by kernel_rfl) (by kernel_rfl) ?_
              have hM178 : Mem [] w w173 [] := hM175.sub (cn (cn (cn (List.Sublist.refl _))))
              refine GoS.ret (fn := Try.f5) (v := (.bool true)) Try.func5 (by kernel_rfl) ?_
              rw [hR]
              exact ⟨rfl, (hM178.sub (List.nil_sublist _)).below⟩
            ·
              have h177p : ¬ (((((sizeQ qa) + 1) : Nat) : Int) ≤ 64) := of_decide_eq_false h177
              refine GoH.takeV 11 (.bool (decide (((((sizeQ qa) + 1) : Nat) : Int) ≤ 64))) (.bool false) (some 115) (fun W_ => by kernel_rfl) (congrArg Value.bool h177) hS176 ?_
              refine GoH.skipF 12 (some 116) (by kernel_rfl) hS176 ?_
              refine GoH.skipF 13 (some 117) (by kernel_rfl) hS176 ?_
              refine GoH.skipF 14 (some 118) (by kernel_rfl) hS176 ?_
              refine GoH.takeV 15 (.bool false) (.bool false) (some 119) (fun W_ => by kernel_rfl) rfl hS176 ?_
              refine GoH.takeF 16 (.bool true) (fun W_ => Try.prog.underlying 4 = some .bool ∧ W_ = W_ ∧ Value.bool true = .bool (((checkQ (Q.mk (opH 9) [qa])) == 0) == false)) (some 120) (fun W_ => by kernel_rfl) (fun W_ hW_ => ⟨by kernel_rfl, rfl, congrArg Value.bool (Eq.symm (by rw [(show (checkQ (Q.mk (opH 9) [qa]) == 0) = false by have J := check_not qa; rw [Bool.eq_iff_iff, beq_iff_eq, J]; first | (simp; done) | (simp; omega) | omega)]; simp))⟩) hS176 ?_
              refine GoH.takeV 17 (.bool true) (.bool true) (some 4) (fun W_ => by kernel_rfl) rfl hS176 ?_
              refine GoH.done [4] [(4, .bool true)] (by kernel_rfl) (by kernel_rfl) ?_
              have hM179 : Mem [] w w173 [] := hM175.sub (cn (cn (cn (List.Sublist.refl _))))
              refine GoS.ret (fn := Try.f5) (v := (.bool true)) Try.func5 (by kernel_rfl) ?_
              rw [hR]
              exact ⟨rfl, (hM179.sub (List.nil_sublist _)).below⟩
        ·
          have h120p : ¬ ((((((sizeQ qa) + (sizeQ qb)) + 1) : Nat) : Int) ≤ 64) := of_decide_eq_false h120
          refine GoS.run [2, 5, 6, 9, 10, 11, 12, 15] [.n, .n, .n, .n, .n, .n, .n] _ [.inRegion (cops (csub (cd Try.f5) [1,1,1,1,1,1,1,1,1,1,0])) [], .code (csub (cd Try.f5) [1,1,1,1,1,1,1,1,1,1,1])] [(2, pq b1), (5, .int .i64 (((sizeQ qa) : Nat) : Int)), (6, .int .i64 (((deepQ qa) : Nat) : Int)), (9, .bool ((checkQ qb) == 0)), (10, pq b52), (11, pq b65), (12, pq b78), (15, .bool false)] w109 (by kernel_rfl) .nil ?_
          refine GoS.run [2, 5, 6, 9, 10, 11, 12, 15] [.n, .n, .n] _ [.code (csub (cd Try.f5) [1,1,1,1,1,1,1,1,1,1,1,0,0]), .code (csub (cd Try.f5) [1,1,1,1,1,1,1,1,1,1,1,0,1]), .code (csub (cd Try.f5) [1,1,1,1,1,1,1,1,1,1,1,1])] [(2, pq b1), (5, .int .i64 (((sizeQ qa) : Nat) : Int)), (6, .int .i64 (((deepQ qa) : Nat) : Int)), (9, .bool ((checkQ qb) == 0)), (10, pq b52), (11, pq b65), (12, pq b78), (15, .bool false)] w109 (by kernel_rfl) .nil ?_
          obtain ⟨w180, hw181⟩ : ∃ w_, (w109).drewN 1 = w_ := ⟨_, rfl⟩
          refine GoS.held (fun W_ => Mem [] w W_ [⟨25, 8, (obj b78), 1, (qP 9 v74)⟩, ⟨25, 8, v74, 1, (qR ha va)⟩, ⟨25, 8, (obj b65), 1, (qP 8 v61)⟩, ⟨25, 8, v61, 2, (qRR ha va hb vb)⟩, ⟨25, 8, (obj b52), 1, (qP 7 v48)⟩, ⟨25, 8, v48, 2, (qRR ha va hb vb)⟩, ⟨25, 8, (obj b1), 1, (qR ha va)⟩]) [] 13 (by kernel_rfl) (by kernel_rfl) 15 (by kernel_rfl) ?_
          rw [hw181]
          have hM182 : Mem [] w w180 [⟨25, 8, (obj b78), 1, (qP 9 v74)⟩, ⟨25, 8, v74, 1, (qR ha va)⟩, ⟨25, 8, (obj b65), 1, (qP 8 v61)⟩, ⟨25, 8, v61, 2, (qRR ha va hb vb)⟩, ⟨25, 8, (obj b52), 1, (qP 7 v48)⟩, ⟨25, 8, v48, 2, (qRR ha va hb vb)⟩, ⟨25, 8, (obj b1), 1, (qR ha va)⟩] := hw181 ▸ hM111.ext (Kept.drewN _ _ 1)
          have hS183 : Mem [] w w180 [⟨25, 8, (obj b78), 1, (qP 9 v74)⟩, ⟨25, 8, v74, 1, (qR ha va)⟩, ⟨25, 8, (obj b65), 1, (qP 8 v61)⟩, ⟨25, 8, v61, 2, (qRR ha va hb vb)⟩, ⟨25, 8, (obj b52), 1, (qP 7 v48)⟩, ⟨25, 8, v48, 2, (qRR ha va hb vb)⟩, ⟨25, 8, (obj b1), 1, (qR ha va)⟩] := hM182.sub (cc (cc (cc (cc (cc (cc (cc (List.Sublist.refl _))))))))
          refine GoH.takeF 0 ((qO 7 v48)) (fun W_ => (Instr.loadAt 25 (pq b52)).run Try.prog W_ = .ok ((qO 7 v48)) W_) (some 89) (fun W_ => by kernel_rfl) (fun W_ hW_ => c_loads (ys := (qP 7 v48)) aE25 (hW_.rd 4 rfl) (cel_obj b52 0) rfl (by intro j u hj; match j, hj with | 0, hj => exact hj | 1, hj => exact hj | 2, hj => exact hj | 3, hj => exact hj | 4, hj => exact hj | 5, hj => exact hj | 6, hj => exact hj | 7, hj => exact hj | n + 8, hj => cases hj)) hS183 ?_
          refine GoH.takeV 3 (.bool ((checkQ qb) == 0)) (.bool ((checkQ qb) == 0)) (some 92) (fun W_ => by kernel_rfl) rfl hS183 ?_
          refine GoH.callF 1 13 #[(qO 7 v48)] (some 90) (by kernel_rfl) (check_c (Q.mk (opH 7) [qa, qb]) (opH 7) rfl v48 (RdQ.two2 (opH 7) (show Rd _ 8 v48 2 (recs qnC [⟨ha, va⟩, ⟨hb, vb⟩]) from hM182.rd 5 rfl) hea (hqa.kept hM182.kept) heb (hqb.kept hM182.kept)) (by first | omega | (rw [bulk_two]; omega) | (rw [bulk_one]; omega) | (refine Nat.le_trans (bulk_put (by omega)) (by omega)) | decide +kernel)) ?_
          rintro _ w184 ⟨rfl, m185⟩
          have hM186 := Mem.join hM182 m185
          have hS187 : Mem [] w w184 [⟨25, 8, (obj b78), 1, (qP 9 v74)⟩, ⟨25, 8, v74, 1, (qR ha va)⟩, ⟨25, 8, (obj b65), 1, (qP 8 v61)⟩, ⟨25, 8, v61, 2, (qRR ha va hb vb)⟩, ⟨25, 8, (obj b52), 1, (qP 7 v48)⟩, ⟨25, 8, v48, 2, (qRR ha va hb vb)⟩, ⟨25, 8, (obj b1), 1, (qR ha va)⟩] := hM186.sub (cc (cc (cc (cc (cc (cc (cc (List.Sublist.refl _))))))))
          refine ⟨.int .i64 (checkQ (Q.mk (opH 7) [qa, qb])), rfl, .inr hS187, ?_⟩
          refine GoH.takeV 2 (.bool ((checkQ (Q.mk (opH 7) [qa, qb])) == 0)) (.bool ((checkQ (Q.mk (opH 7) [qa, qb])) == 0)) (some 91) (fun W_ => by kernel_rfl) rfl hS187 ?_
          rcases Bool.eq_false_or_eq_true ((checkQ qb) == 0) with h188 | h188
          ·
            have h188p : (checkQ qb) = 0 := eq_of_beq h188
            refine GoH.takeV 4 (.bool ((checkQ qb) == 0)) (.bool true) (some 93) (fun W_ => by kernel_rfl) (congrArg Value.bool h188) hS187 ?_
            refine GoH.takeV 5 (.bool false) (.bool false) (some 94) (fun W_ => by kernel_rfl) rfl hS187 ?_
            refine GoH.takeV 6 (.bool false) (.bool false) (some 95) (fun W_ => by kernel_rfl) rfl hS187 ?_
            refine GoH.takeF 7 (.bool false) (fun W_ => Try.prog.underlying 4 = some .bool ∧ W_ = W_ ∧ Value.bool false = .bool (!(((checkQ (Q.mk (opH 7) [qa, qb])) == 0) == false))) (some 96) (fun W_ => by kernel_rfl) (fun W_ hW_ => ⟨by kernel_rfl, rfl, congrArg Value.bool (Eq.symm (by rw [(show (checkQ (Q.mk (opH 7) [qa, qb]) == 0) = false by have J := check_join 7 (.inl rfl) qa qb; rw [Bool.eq_iff_iff, beq_iff_eq, J]; first | (simp; done) | (simp; omega) | omega)]; simp))⟩) hS187 ?_
            refine GoH.takeV 8 (.bool false) (.bool false) (some 97) (fun W_ => by kernel_rfl) rfl hS187 ?_
            refine GoH.takeF 9 ((qO 8 v61)) (fun W_ => (Instr.loadAt 25 (pq b65)).run Try.prog W_ = .ok ((qO 8 v61)) W_) (some 98) (fun W_ => by kernel_rfl) (fun W_ hW_ => c_loads (ys := (qP 8 v61)) aE25 (hW_.rd 2 rfl) (cel_obj b65 0) rfl (by intro j u hj; match j, hj with | 0, hj => exact hj | 1, hj => exact hj | 2, hj => exact hj | 3, hj => exact hj | 4, hj => exact hj | 5, hj => exact hj | 6, hj => exact hj | 7, hj => exact hj | n + 8, hj => cases hj)) hS187 ?_
            refine GoH.takeF 11 ((qO 7 v48)) (fun W_ => (Instr.loadAt 25 (pq b52)).run Try.prog W_ = .ok ((qO 7 v48)) W_) (some 100) (fun W_ => by kernel_rfl) (fun W_ hW_ => c_loads (ys := (qP 7 v48)) aE25 (hW_.rd 4 rfl) (cel_obj b52 0) rfl (by intro j u hj; match j, hj with | 0, hj => exact hj | 1, hj => exact hj | 2, hj => exact hj | 3, hj => exact hj | 4, hj => exact hj | 5, hj => exact hj | 6, hj => exact hj | 7, hj => exact hj | n + 8, hj => cases hj)) hS187 ?_
            refine GoH.callF 10 13 #[(qO 8 v61)] (some 99) (by kernel_rfl) (check_c (Q.mk (opH 8) [qa, qb]) (opH 8) rfl v61 (RdQ.two2 (opH 8) (show Rd _ 8 v61 2 (recs qnC [⟨ha, va⟩, ⟨hb, vb⟩]) from hM186.rd 3 rfl) hea (hqa.kept hM186.kept) heb (hqb.kept hM186.kept)) (by first | omega | (rw [bulk_two]; omega) | (rw [bulk_one]; omega) | (refine Nat.le_trans (bulk_put (by omega)) (by omega)) | decide +kernel)) ?_
            rintro _ w189 ⟨rfl, m190⟩
            have hM191 := Mem.join hM186 m190
            have hS192 : Mem [] w w189 [⟨25, 8, (obj b78), 1, (qP 9 v74)⟩, ⟨25, 8, v74, 1, (qR ha va)⟩, ⟨25, 8, (obj b65), 1, (qP 8 v61)⟩, ⟨25, 8, v61, 2, (qRR ha va hb vb)⟩, ⟨25, 8, (obj b52), 1, (qP 7 v48)⟩, ⟨25, 8, v48, 2, (qRR ha va hb vb)⟩, ⟨25, 8, (obj b1), 1, (qR ha va)⟩] := hM191.sub (cc (cc (cc (cc (cc (cc (cc (List.Sublist.refl _))))))))
            refine ⟨.int .i64 (checkQ (Q.mk (opH 8) [qa, qb])), rfl, .inr hS192, ?_⟩
            refine GoH.callF 12 13 #[(qO 7 v48)] (some 101) (by kernel_rfl) (check_c (Q.mk (opH 7) [qa, qb]) (opH 7) rfl v48 (RdQ.two2 (opH 7) (show Rd _ 8 v48 2 (recs qnC [⟨ha, va⟩, ⟨hb, vb⟩]) from hM191.rd 5 rfl) hea (hqa.kept hM191.kept) heb (hqb.kept hM191.kept)) (by first | omega | (rw [bulk_two]; omega) | (rw [bulk_one]; omega) | (refine Nat.le_trans (bulk_put (by omega)) (by omega)) | decide +kernel)) ?_
            rintro _ w193 ⟨rfl, m194⟩
            have hM195 := Mem.join hM191 m194
            have hS196 : Mem [] w w193 [⟨25, 8, (obj b78), 1, (qP 9 v74)⟩, ⟨25, 8, v74, 1, (qR ha va)⟩, ⟨25, 8, (obj b65), 1, (qP 8 v61)⟩, ⟨25, 8, v61, 2, (qRR ha va hb vb)⟩, ⟨25, 8, (obj b52), 1, (qP 7 v48)⟩, ⟨25, 8, v48, 2, (qRR ha va hb vb)⟩, ⟨25, 8, (obj b1), 1, (qR ha va)⟩] := hM195.sub (cc (cc (cc (cc (cc (cc (cc (List.Sublist.refl _))))))))
            refine ⟨.int .i64 (checkQ (Q.mk (opH 7) [qa, qb])), rfl, .inr hS196, ?_⟩
            refine GoH.takeF 13 (.bool false) (fun W_ => (IntKind.i64 = IntKind.i64) ∧ W_ = W_ ∧ Value.bool false = .bool ((checkQ (Q.mk (opH 8) [qa, qb])) != (checkQ (Q.mk (opH 7) [qa, qb])))) (some 102) (fun W_ => by kernel_rfl) (fun W_ hW_ => ⟨rfl, rfl, congrArg Value.bool (Eq.symm (bne_eq_false_iff_eq.2 (check_or qa qb)))⟩) hS196 ?_
            refine GoH.takeV 14 (.bool false) (.bool false) (some 103) (fun W_ => by kernel_rfl) rfl hS196 ?_
            refine GoH.done [2, 5, 6, 12, 103] [(2, pq b1), (5, .int .i64 (((sizeQ qa) : Nat) : Int)), (6, .int .i64 (((deepQ qa) : Nat) : Int)), (12, pq b78), (103, .bool false)] (by kernel_rfl) (by kernel_rfl) ?_
            have hM197 : Mem [] w w193 [⟨25, 8, (obj b78), 1, (qP 9 v74)⟩, ⟨25, 8, v74, 1, (qR ha va)⟩, ⟨25, 8, (obj b1), 1, (qR ha va)⟩] := hM195.sub (cc (cc (cn (cn (cn (cn (cc (List.Sublist.refl _))))))))
            refine GoS.run [2, 5, 6, 12] [.n, .n, .n] _ [.code (csub (cd Try.f5) [1,1,1,1,1,1,1,1,1,1,1,1,0]), .code (csub (cd Try.f5) [1,1,1,1,1,1,1,1,1,1,1,1,1])] [(2, pq b1), (5, .int .i64 (((sizeQ qa) : Nat) : Int)), (6, .int .i64 (((deepQ qa) : Nat) : Int)), (12, pq b78)] w193 (by kernel_rfl) .nil ?_
            obtain ⟨w198, hw199⟩ : ∃ w_, (w193).drewN 1 = w_ := ⟨_, rfl⟩
            refine GoS.held (fun W_ => Mem [] w W_ [⟨25, 8, (obj b78), 1, (qP 9 v74)⟩, ⟨25, 8, v74, 1, (qR ha va)⟩, ⟨25, 8, (obj b1), 1, (qR ha va)⟩]) [] 15 (by kernel_rfl) (by kernel_rfl) 18 (by kernel_rfl) ?_
            rw [hw199]
            have hM200 : Mem [] w w198 [⟨25, 8, (obj b78), 1, (qP 9 v74)⟩, ⟨25, 8, v74, 1, (qR ha va)⟩, ⟨25, 8, (obj b1), 1, (qR ha va)⟩] := hw199 ▸ hM197.ext (Kept.drewN _ _ 1)
            have hS201 : Mem [] w w198 [⟨25, 8, (obj b78), 1, (qP 9 v74)⟩, ⟨25, 8, v74, 1, (qR ha va)⟩, ⟨25, 8, (obj b1), 1, (qR ha va)⟩] := hM200.sub (cc (cc (cc (List.Sublist.refl _))))
            refine GoH.takeF 0 ((qO 9 v74)) (fun W_ => (Instr.loadAt 25 (pq b78)).run Try.prog W_ = .ok ((qO 9 v74)) W_) (some 104) (fun W_ => by kernel_rfl) (fun W_ hW_ => c_loads (ys := (qP 9 v74)) aE25 (hW_.rd 0 rfl) (cel_obj b78 0) rfl (by intro j u hj; match j, hj with | 0, hj => exact hj | 1, hj => exact hj | 2, hj => exact hj | 3, hj => exact hj | 4, hj => exact hj | 5, hj => exact hj | 6, hj => exact hj | 7, hj => exact hj | n + 8, hj => cases hj)) hS201 ?_
            refine GoH.takeF 3 ((qA ha va)) (fun W_ => (Instr.loadAt 25 (pq b1)).run Try.prog W_ = .ok ((qA ha va)) W_) (some 107) (fun W_ => by kernel_rfl) (fun W_ hW_ => c_loads (ys := (qR ha va)) aE25 (hW_.rd 2 rfl) (cel_obj b1 0) rfl (by intro j u hj; match j, hj with | 0, hj => exact hj | 1, hj => exact hj | 2, hj => exact hj | 3, hj => exact hj | 4, hj => exact hj | 5, hj => exact hj | 6, hj => exact hj | 7, hj => exact hj | n + 8, hj => cases hj)) hS201 ?_
            refine GoH.callF 1 13 #[(qO 9 v74)] (some 105) (by kernel_rfl) (check_c (Q.mk (opH 9) [qa]) (opH 9) rfl v74 (RdQ.one1 (opH 9) (show Rd _ 8 v74 1 (recs qnC [⟨ha, va⟩]) from hM200.rd 1 rfl) hea (hqa.kept hM200.kept)) (by first | omega | (rw [bulk_two]; omega) | (rw [bulk_one]; omega) | (refine Nat.le_trans (bulk_put (by omega)) (by omega)) | decide +kernel)) ?_
            rintro _ w202 ⟨rfl, m203⟩
            have hM204 := Mem.join hM200 m203
            have hS205 : Mem [] w w202 [⟨25, 8, (obj b78), 1, (qP 9 v74)⟩, ⟨25, 8, v74, 1, (qR ha va)⟩, ⟨25, 8, (obj b1), 1, (qR ha va)⟩] := hM204.sub (cc (cc (cc (List.Sublist.refl _))))
            refine ⟨.int .i64 (checkQ (Q.mk (opH 9) [qa])), rfl, .inr hS205, ?_⟩
            refine GoH.takeV 2 (.bool ((checkQ (Q.mk (opH 9) [qa])) == 0)) (.bool ((checkQ (Q.mk (opH 9) [qa])) == 0)) (some 106) (fun W_ => by kernel_rfl) rfl hS205 ?_
            refine GoH.callF 4 13 #[(qA ha va)] (some 108) (by kernel_rfl) (check_c qa ha hea va (hqa.kept hM204.kept) (by first | omega | (rw [bulk_two]; omega) | (rw [bulk_one]; omega) | (refine Nat.le_trans (bulk_put (by omega)) (by omega)) | decide +kernel)) ?_
            rintro _ w206 ⟨rfl, m207⟩
            have hM208 := Mem.join hM204 m207
            have hS209 : Mem [] w w206 [⟨25, 8, (obj b78), 1, (qP 9 v74)⟩, ⟨25, 8, v74, 1, (qR ha va)⟩, ⟨25, 8, (obj b1), 1, (qR ha va)⟩] := hM208.sub (cc (cc (cc (List.Sublist.refl _))))
            refine ⟨.int .i64 (checkQ qa), rfl, .inr hS209, ?_⟩
            refine GoH.takeV 5 (.bool ((checkQ qa) == 0)) (.bool ((checkQ qa) == 0)) (some 109) (fun W_ => by kernel_rfl) rfl hS209 ?_
            refine GoH.takeV 6 (.bool ((checkQ qa) == 0)) (.bool true) (some 110) (fun W_ => by kernel_rfl) (congrArg Value.bool h43) hS209 ?_
            refine GoH.takeV 7 (.int .i64 (((sizeQ qa) : Nat) : Int)) (.int .i64 (((sizeQ qa) : Nat) : Int)) (some 111) (fun W_ => by kernel_rfl) rfl hS209 ?_
            refine GoH.takeF 8 (.int .i64 ((((sizeQ qa) + 1) : Nat) : Int)) (fun W_ => (binOp .add 3 (.int .i64 (((sizeQ qa) : Nat) : Int)) (.int .i64 1)).run Try.prog W_ = .ok (.int .i64 ((((sizeQ qa) + 1) : Nat) : Int)) W_) (some 112) (fun W_ => by kernel_rfl) (fun W_ hW_ => f_add (by rw [show (((sizeQ qa) : Nat) : Int) + 1 = ((((sizeQ qa) + 1) : Nat) : Int) by omega]; exact IntWalk.i64_in _ (by omega))) hS209 ?_
            refine GoH.takeV 9 (.bool (decide (((((sizeQ qa) + 1) : Nat) : Int) ≤ 64))) (.bool (decide (((((sizeQ qa) + 1) : Nat) : Int) ≤ 64))) (some 113) (fun W_ => by kernel_rfl) rfl hS209 ?_
            refine GoH.takeV 10 (.bool (decide (((((sizeQ qa) + 1) : Nat) : Int) ≤ 64))) (.bool (decide (((((sizeQ qa) + 1) : Nat) : Int) ≤ 64))) (some 114) (fun W_ => by kernel_rfl) rfl hS209 ?_
            rcases Bool.eq_false_or_eq_true (decide (((((sizeQ qa) + 1) : Nat) : Int) ≤ 64)) with h210 | h210
            ·
              have h210p : ((((sizeQ qa) + 1) : Nat) : Int) ≤ 64 := of_decide_eq_true h210
              refine GoH.takeV 11 (.bool (decide (((((sizeQ qa) + 1) : Nat) : Int) ≤ 64))) (.bool true) (some 115) (fun W_ => by kernel_rfl) (congrArg Value.bool h210) hS209 ?_
              refine GoH.takeV 12 (.int .i64 (((deepQ qa) : Nat) : Int)) (.int .i64 (((deepQ qa) : Nat) : Int)) (some 116) (fun W_ => by kernel_rfl) rfl hS209 ?_
              refine GoH.takeF 13 (.int .i64 ((((deepQ qa) + 1) : Nat) : Int)) (fun W_ => (binOp .add 3 (.int .i64 (((deepQ qa) : Nat) : Int)) (.int .i64 1)).run Try.prog W_ = .ok (.int .i64 ((((deepQ qa) + 1) : Nat) : Int)) W_) (some 117) (fun W_ => by kernel_rfl) (fun W_ hW_ => f_add (by rw [show (((deepQ qa) : Nat) : Int) + 1 = ((((deepQ qa) + 1) : Nat) : Int) by omega]; exact IntWalk.i64_in _ (by omega))) hS209 ?_
              refine GoH.takeV 14 (.bool (decide (((((deepQ qa) + 1) : Nat) : Int) ≤ 8))) (.bool (decide (((((deepQ qa) + 1) : Nat) : Int) ≤ 8))) (some 118) (fun W_ => by kernel_rfl) rfl hS209 ?_
              refine GoH.takeV 15 (.bool (decide (((((deepQ qa) + 1) : Nat) : Int) ≤ 8))) (.bool (decide (((((deepQ qa) + 1) : Nat) : Int) ≤ 8))) (some 119) (fun W_ => by kernel_rfl) rfl hS209 ?_
              refine GoH.takeF 16 (.bool true) (fun W_ => Try.prog.underlying 4 = some .bool ∧ W_ = W_ ∧ Value.bool true = .bool (((checkQ (Q.mk (opH 9) [qa])) == 0) == (decide (((((deepQ qa) + 1) : Nat) : Int) ≤ 8)))) (some 120) (fun W_ => by kernel_rfl) (fun W_ hW_ => ⟨by kernel_rfl, rfl, congrArg Value.bool (Eq.symm (by rw [(show (checkQ (Q.mk (opH 9) [qa]) == 0) = (decide (((((deepQ qa) + 1) : Nat) : Int) ≤ 8)) by have J := check_not qa; rw [Bool.eq_iff_iff, beq_iff_eq, J]; first | (simp; done) | (simp; omega) | omega)]; simp))⟩) hS209 ?_
              refine GoH.takeV 17 (.bool true) (.bool true) (some 4) (fun W_ => by kernel_rfl) rfl hS209 ?_
              refine GoH.done [4] [(4, .bool true)] (by kernel_rfl) (by kernel_rfl) ?_
              have hM211 : Mem [] w w206 [] := hM208.sub (cn (cn (cn (List.Sublist.refl _))))
              refine GoS.ret (fn := Try.f5) (v := (.bool true)) Try.func5 (by kernel_rfl) ?_
              rw [hR]
              exact ⟨rfl, (hM211.sub (List.nil_sublist _)).below⟩
            ·
              have h210p : ¬ (((((sizeQ qa) + 1) : Nat) : Int) ≤ 64) := of_decide_eq_false h210
              refine GoH.takeV 11 (.bool (decide (((((sizeQ qa) + 1) : Nat) : Int) ≤ 64))) (.bool false) (some 115) (fun W_ => by kernel_rfl) (congrArg Value.bool h210) hS209 ?_
              refine GoH.skipF 12 (some 116) (by kernel_rfl) hS209 ?_
              refine GoH.skipF 13 (some 117) (by kernel_rfl) hS209 ?_
              refine GoH.skipF 14 (some 118) (by kernel_rfl) hS209 ?_
              refine GoH.takeV 15 (.bool false) (.bool false) (some 119) (fun W_ => by kernel_rfl) rfl hS209 ?_
              refine GoH.takeF 16 (.bool true) (fun W_ => Try.prog.underlying 4 = some .bool ∧ W_ = W_ ∧ Value.bool true = .bool (((checkQ (Q.mk (opH 9) [qa])) == 0) == false)) (some 120) (fun W_ => by kernel_rfl) (fun W_ hW_ => ⟨by kernel_rfl, rfl, congrArg Value.bool (Eq.symm (by rw [(show (checkQ (Q.mk (opH 9) [qa]) == 0) = false by have J := check_not qa; rw [Bool.eq_iff_iff, beq_iff_eq, J]; first | (simp; done) | (simp; omega) | omega)]; simp))⟩) hS209 ?_
              refine GoH.takeV 17 (.bool true) (.bool true) (some 4) (fun W_ => by kernel_rfl) rfl hS209 ?_
              refine GoH.done [4] [(4, .bool true)] (by kernel_rfl) (by kernel_rfl) ?_
              have hM212 : Mem [] w w206 [] := hM208.sub (cn (cn (cn (List.Sublist.refl _))))
              refine GoS.ret (fn := Try.f5) (v := (.bool true)) Try.func5 (by kernel_rfl) ?_
              rw [hR]
              exact ⟨rfl, (hM212.sub (List.nil_sublist _)).below⟩
          ·
            have h188p : ¬ ((checkQ qb) = 0) := p_ne h188
            refine GoH.takeV 4 (.bool ((checkQ qb) == 0)) (.bool false) (some 93) (fun W_ => by kernel_rfl) (congrArg Value.bool h188) hS187 ?_
            refine GoH.skipF 5 (some 94) (by kernel_rfl) hS187 ?_
            refine GoH.takeV 6 (.bool false) (.bool false) (some 95) (fun W_ => by kernel_rfl) rfl hS187 ?_
            refine GoH.takeF 7 (.bool false) (fun W_ => Try.prog.underlying 4 = some .bool ∧ W_ = W_ ∧ Value.bool false = .bool (!(((checkQ (Q.mk (opH 7) [qa, qb])) == 0) == false))) (some 96) (fun W_ => by kernel_rfl) (fun W_ hW_ => ⟨by kernel_rfl, rfl, congrArg Value.bool (Eq.symm (by rw [(show (checkQ (Q.mk (opH 7) [qa, qb]) == 0) = false by have J := check_join 7 (.inl rfl) qa qb; rw [Bool.eq_iff_iff, beq_iff_eq, J]; first | (simp; done) | (simp; omega) | omega)]; simp))⟩) hS187 ?_
            refine GoH.takeV 8 (.bool false) (.bool false) (some 97) (fun W_ => by kernel_rfl) rfl hS187 ?_
            refine GoH.takeF 9 ((qO 8 v61)) (fun W_ => (Instr.loadAt 25 (pq b65)).run Try.prog W_ = .ok ((qO 8 v61)) W_) (some 98) (fun W_ => by kernel_rfl) (fun W_ hW_ => c_loads (ys := (qP 8 v61)) aE25 (hW_.rd 2 rfl) (cel_obj b65 0) rfl (by intro j u hj; match j, hj with | 0, hj => exact hj | 1, hj => exact hj | 2, hj => exact hj | 3, hj => exact hj | 4, hj => exact hj | 5, hj => exact hj | 6, hj => exact hj | 7, hj => exact hj | n + 8, hj => cases hj)) hS187 ?_
            refine GoH.takeF 11 ((qO 7 v48)) (fun W_ => (Instr.loadAt 25 (pq b52)).run Try.prog W_ = .ok ((qO 7 v48)) W_) (some 100) (fun W_ => by kernel_rfl) (fun W_ hW_ => c_loads (ys := (qP 7 v48)) aE25 (hW_.rd 4 rfl) (cel_obj b52 0) rfl (by intro j u hj; match j, hj with | 0, hj => exact hj | 1, hj => exact hj | 2, hj => exact hj | 3, hj => exact hj | 4, hj => exact hj | 5, hj => exact hj | 6, hj => exact hj | 7, hj => exact hj | n + 8, hj => cases hj)) hS187 ?_
            refine GoH.callF 10 13 #[(qO 8 v61)] (some 99) (by kernel_rfl) (check_c (Q.mk (opH 8) [qa, qb]) (opH 8) rfl v61 (RdQ.two2 (opH 8) (show Rd _ 8 v61 2 (recs qnC [⟨ha, va⟩, ⟨hb, vb⟩]) from hM186.rd 3 rfl) hea (hqa.kept hM186.kept) heb (hqb.kept hM186.kept)) (by first | omega | (rw [bulk_two]; omega) | (rw [bulk_one]; omega) | (refine Nat.le_trans (bulk_put (by omega)) (by omega)) | decide +kernel)) ?_
            rintro _ w213 ⟨rfl, m214⟩
            have hM215 := Mem.join hM186 m214
            have hS216 : Mem [] w w213 [⟨25, 8, (obj b78), 1, (qP 9 v74)⟩, ⟨25, 8, v74, 1, (qR ha va)⟩, ⟨25, 8, (obj b65), 1, (qP 8 v61)⟩, ⟨25, 8, v61, 2, (qRR ha va hb vb)⟩, ⟨25, 8, (obj b52), 1, (qP 7 v48)⟩, ⟨25, 8, v48, 2, (qRR ha va hb vb)⟩, ⟨25, 8, (obj b1), 1, (qR ha va)⟩] := hM215.sub (cc (cc (cc (cc (cc (cc (cc (List.Sublist.refl _))))))))
            refine ⟨.int .i64 (checkQ (Q.mk (opH 8) [qa, qb])), rfl, .inr hS216, ?_⟩
            refine GoH.callF 12 13 #[(qO 7 v48)] (some 101) (by kernel_rfl) (check_c (Q.mk (opH 7) [qa, qb]) (opH 7) rfl v48 (RdQ.two2 (opH 7) (show Rd _ 8 v48 2 (recs qnC [⟨ha, va⟩, ⟨hb, vb⟩]) from hM215.rd 5 rfl) hea (hqa.kept hM215.kept) heb (hqb.kept hM215.kept)) (by first | omega | (rw [bulk_two]; omega) | (rw [bulk_one]; omega) | (refine Nat.le_trans (bulk_put (by omega)) (by omega)) | decide +kernel)) ?_
            rintro _ w217 ⟨rfl, m218⟩
            have hM219 := Mem.join hM215 m218
            have hS220 : Mem [] w w217 [⟨25, 8, (obj b78), 1, (qP 9 v74)⟩, ⟨25, 8, v74, 1, (qR ha va)⟩, ⟨25, 8, (obj b65), 1, (qP 8 v61)⟩, ⟨25, 8, v61, 2, (qRR ha va hb vb)⟩, ⟨25, 8, (obj b52), 1, (qP 7 v48)⟩, ⟨25, 8, v48, 2, (qRR ha va hb vb)⟩, ⟨25, 8, (obj b1), 1, (qR ha va)⟩] := hM219.sub (cc (cc (cc (cc (cc (cc (cc (List.Sublist.refl _))))))))
            refine ⟨.int .i64 (checkQ (Q.mk (opH 7) [qa, qb])), rfl, .inr hS220, ?_⟩
            refine GoH.takeF 13 (.bool false) (fun W_ => (IntKind.i64 = IntKind.i64) ∧ W_ = W_ ∧ Value.bool false = .bool ((checkQ (Q.mk (opH 8) [qa, qb])) != (checkQ (Q.mk (opH 7) [qa, qb])))) (some 102) (fun W_ => by kernel_rfl) (fun W_ hW_ => ⟨rfl, rfl, congrArg Value.bool (Eq.symm (bne_eq_false_iff_eq.2 (check_or qa qb)))⟩) hS220 ?_
            refine GoH.takeV 14 (.bool false) (.bool false) (some 103) (fun W_ => by kernel_rfl) rfl hS220 ?_
            refine GoH.done [2, 5, 6, 12, 103] [(2, pq b1), (5, .int .i64 (((sizeQ qa) : Nat) : Int)), (6, .int .i64 (((deepQ qa) : Nat) : Int)), (12, pq b78), (103, .bool false)] (by kernel_rfl) (by kernel_rfl) ?_
            have hM221 : Mem [] w w217 [⟨25, 8, (obj b78), 1, (qP 9 v74)⟩, ⟨25, 8, v74, 1, (qR ha va)⟩, ⟨25, 8, (obj b1), 1, (qR ha va)⟩] := hM219.sub (cc (cc (cn (cn (cn (cn (cc (List.Sublist.refl _))))))))
            refine GoS.run [2, 5, 6, 12] [.n, .n, .n] _ [.code (csub (cd Try.f5) [1,1,1,1,1,1,1,1,1,1,1,1,0]), .code (csub (cd Try.f5) [1,1,1,1,1,1,1,1,1,1,1,1,1])] [(2, pq b1), (5, .int .i64 (((sizeQ qa) : Nat) : Int)), (6, .int .i64 (((deepQ qa) : Nat) : Int)), (12, pq b78)] w217 (by kernel_rfl) .nil ?_
            obtain ⟨w222, hw223⟩ : ∃ w_, (w217).drewN 1 = w_ := ⟨_, rfl⟩
            refine GoS.held (fun W_ => Mem [] w W_ [⟨25, 8, (obj b78), 1, (qP 9 v74)⟩, ⟨25, 8, v74, 1, (qR ha va)⟩, ⟨25, 8, (obj b1), 1, (qR ha va)⟩]) [] 15 (by kernel_rfl) (by kernel_rfl) 18 (by kernel_rfl) ?_
            rw [hw223]
            have hM224 : Mem [] w w222 [⟨25, 8, (obj b78), 1, (qP 9 v74)⟩, ⟨25, 8, v74, 1, (qR ha va)⟩, ⟨25, 8, (obj b1), 1, (qR ha va)⟩] := hw223 ▸ hM221.ext (Kept.drewN _ _ 1)
            have hS225 : Mem [] w w222 [⟨25, 8, (obj b78), 1, (qP 9 v74)⟩, ⟨25, 8, v74, 1, (qR ha va)⟩, ⟨25, 8, (obj b1), 1, (qR ha va)⟩] := hM224.sub (cc (cc (cc (List.Sublist.refl _))))
            refine GoH.takeF 0 ((qO 9 v74)) (fun W_ => (Instr.loadAt 25 (pq b78)).run Try.prog W_ = .ok ((qO 9 v74)) W_) (some 104) (fun W_ => by kernel_rfl) (fun W_ hW_ => c_loads (ys := (qP 9 v74)) aE25 (hW_.rd 0 rfl) (cel_obj b78 0) rfl (by intro j u hj; match j, hj with | 0, hj => exact hj | 1, hj => exact hj | 2, hj => exact hj | 3, hj => exact hj | 4, hj => exact hj | 5, hj => exact hj | 6, hj => exact hj | 7, hj => exact hj | n + 8, hj => cases hj)) hS225 ?_
            refine GoH.takeF 3 ((qA ha va)) (fun W_ => (Instr.loadAt 25 (pq b1)).run Try.prog W_ = .ok ((qA ha va)) W_) (some 107) (fun W_ => by kernel_rfl) (fun W_ hW_ => c_loads (ys := (qR ha va)) aE25 (hW_.rd 2 rfl) (cel_obj b1 0) rfl (by intro j u hj; match j, hj with | 0, hj => exact hj | 1, hj => exact hj | 2, hj => exact hj | 3, hj => exact hj | 4, hj => exact hj | 5, hj => exact hj | 6, hj => exact hj | 7, hj => exact hj | n + 8, hj => cases hj)) hS225 ?_
            refine GoH.callF 1 13 #[(qO 9 v74)] (some 105) (by kernel_rfl) (check_c (Q.mk (opH 9) [qa]) (opH 9) rfl v74 (RdQ.one1 (opH 9) (show Rd _ 8 v74 1 (recs qnC [⟨ha, va⟩]) from hM224.rd 1 rfl) hea (hqa.kept hM224.kept)) (by first | omega | (rw [bulk_two]; omega) | (rw [bulk_one]; omega) | (refine Nat.le_trans (bulk_put (by omega)) (by omega)) | decide +kernel)) ?_
            rintro _ w226 ⟨rfl, m227⟩
            have hM228 := Mem.join hM224 m227
            have hS229 : Mem [] w w226 [⟨25, 8, (obj b78), 1, (qP 9 v74)⟩, ⟨25, 8, v74, 1, (qR ha va)⟩, ⟨25, 8, (obj b1), 1, (qR ha va)⟩] := hM228.sub (cc (cc (cc (List.Sublist.refl _))))
            refine ⟨.int .i64 (checkQ (Q.mk (opH 9) [qa])), rfl, .inr hS229, ?_⟩
            refine GoH.takeV 2 (.bool ((checkQ (Q.mk (opH 9) [qa])) == 0)) (.bool ((checkQ (Q.mk (opH 9) [qa])) == 0)) (some 106) (fun W_ => by kernel_rfl) rfl hS229 ?_
            refine GoH.callF 4 13 #[(qA ha va)] (some 108) (by kernel_rfl) (check_c qa ha hea va (hqa.kept hM228.kept) (by first | omega | (rw [bulk_two]; omega) | (rw [bulk_one]; omega) | (refine Nat.le_trans (bulk_put (by omega)) (by omega)) | decide +kernel)) ?_
            rintro _ w230 ⟨rfl, m231⟩
            have hM232 := Mem.join hM228 m231
            have hS233 : Mem [] w w230 [⟨25, 8, (obj b78), 1, (qP 9 v74)⟩, ⟨25, 8, v74, 1, (qR ha va)⟩, ⟨25, 8, (obj b1), 1, (qR ha va)⟩] := hM232.sub (cc (cc (cc (List.Sublist.refl _))))
            refine ⟨.int .i64 (checkQ qa), rfl, .inr hS233, ?_⟩
            refine GoH.takeV 5 (.bool ((checkQ qa) == 0)) (.bool ((checkQ qa) == 0)) (some 109) (fun W_ => by kernel_rfl) rfl hS233 ?_
            refine GoH.takeV 6 (.bool ((checkQ qa) == 0)) (.bool true) (some 110) (fun W_ => by kernel_rfl) (congrArg Value.bool h43) hS233 ?_
            refine GoH.takeV 7 (.int .i64 (((sizeQ qa) : Nat) : Int)) (.int .i64 (((sizeQ qa) : Nat) : Int)) (some 111) (fun W_ => by kernel_rfl) rfl hS233 ?_
            refine GoH.takeF 8 (.int .i64 ((((sizeQ qa) + 1) : Nat) : Int)) (fun W_ => (binOp .add 3 (.int .i64 (((sizeQ qa) : Nat) : Int)) (.int .i64 1)).run Try.prog W_ = .ok (.int .i64 ((((sizeQ qa) + 1) : Nat) : Int)) W_) (some 112) (fun W_ => by kernel_rfl) (fun W_ hW_ => f_add (by rw [show (((sizeQ qa) : Nat) : Int) + 1 = ((((sizeQ qa) + 1) : Nat) : Int) by omega]; exact IntWalk.i64_in _ (by omega))) hS233 ?_
            refine GoH.takeV 9 (.bool (decide (((((sizeQ qa) + 1) : Nat) : Int) ≤ 64))) (.bool (decide (((((sizeQ qa) + 1) : Nat) : Int) ≤ 64))) (some 113) (fun W_ => by kernel_rfl) rfl hS233 ?_
            refine GoH.takeV 10 (.bool (decide (((((sizeQ qa) + 1) : Nat) : Int) ≤ 64))) (.bool (decide (((((sizeQ qa) + 1) : Nat) : Int) ≤ 64))) (some 114) (fun W_ => by kernel_rfl) rfl hS233 ?_
            rcases Bool.eq_false_or_eq_true (decide (((((sizeQ qa) + 1) : Nat) : Int) ≤ 64)) with h234 | h234
            ·
              have h234p : ((((sizeQ qa) + 1) : Nat) : Int) ≤ 64 := of_decide_eq_true h234
              refine GoH.takeV 11 (.bool (decide (((((sizeQ qa) + 1) : Nat) : Int) ≤ 64))) (.bool true) (some 115) (fun W_ => by kernel_rfl) (congrArg Value.bool h234) hS233 ?_
              refine GoH.takeV 12 (.int .i64 (((deepQ qa) : Nat) : Int)) (.int .i64 (((deepQ qa) : Nat) : Int)) (some 116) (fun W_ => by kernel_rfl) rfl hS233 ?_
              refine GoH.takeF 13 (.int .i64 ((((deepQ qa) + 1) : Nat) : Int)) (fun W_ => (binOp .add 3 (.int .i64 (((deepQ qa) : Nat) : Int)) (.int .i64 1)).run Try.prog W_ = .ok (.int .i64 ((((deepQ qa) + 1) : Nat) : Int)) W_) (some 117) (fun W_ => by kernel_rfl) (fun W_ hW_ => f_add (by rw [show (((deepQ qa) : Nat) : Int) + 1 = ((((deepQ qa) + 1) : Nat) : Int) by omega]; exact IntWalk.i64_in _ (by omega))) hS233 ?_
              refine GoH.takeV 14 (.bool (decide (((((deepQ qa) + 1) : Nat) : Int) ≤ 8))) (.bool (decide (((((deepQ qa) + 1) : Nat) : Int) ≤ 8))) (some 118) (fun W_ => by kernel_rfl) rfl hS233 ?_
              refine GoH.takeV 15 (.bool (decide (((((deepQ qa) + 1) : Nat) : Int) ≤ 8))) (.bool (decide (((((deepQ qa) + 1) : Nat) : Int) ≤ 8))) (some 119) (fun W_ => by kernel_rfl) rfl hS233 ?_
              refine GoH.takeF 16 (.bool true) (fun W_ => Try.prog.underlying 4 = some .bool ∧ W_ = W_ ∧ Value.bool true = .bool (((checkQ (Q.mk (opH 9) [qa])) == 0) == (decide (((((deepQ qa) + 1) : Nat) : Int) ≤ 8)))) (some 120) (fun W_ => by kernel_rfl) (fun W_ hW_ => ⟨by kernel_rfl, rfl, congrArg Value.bool (Eq.symm (by rw [(show (checkQ (Q.mk (opH 9) [qa]) == 0) = (decide (((((deepQ qa) + 1) : Nat) : Int) ≤ 8)) by have J := check_not qa; rw [Bool.eq_iff_iff, beq_iff_eq, J]; first | (simp; done) | (simp; omega) | omega)]; simp))⟩) hS233 ?_
              refine GoH.takeV 17 (.bool true) (.bool true) (some 4) (fun W_ => by kernel_rfl) rfl hS233 ?_
              refine GoH.done [4] [(4, .bool true)] (by kernel_rfl) (by kernel_rfl) ?_
              have hM235 : Mem [] w w230 [] := hM232.sub (cn (cn (cn (List.Sublist.refl _))))
              refine GoS.ret (fn := Try.f5) (v := (.bool true)) Try.func5 (by kernel_rfl) ?_
              rw [hR]
              exact ⟨rfl, (hM235.sub (List.nil_sublist _)).below⟩
            ·
              have h234p : ¬ (((((sizeQ qa) + 1) : Nat) : Int) ≤ 64) := of_decide_eq_false h234
              refine GoH.takeV 11 (.bool (decide (((((sizeQ qa) + 1) : Nat) : Int) ≤ 64))) (.bool false) (some 115) (fun W_ => by kernel_rfl) (congrArg Value.bool h234) hS233 ?_
              refine GoH.skipF 12 (some 116) (by kernel_rfl) hS233 ?_
              refine GoH.skipF 13 (some 117) (by kernel_rfl) hS233 ?_
              refine GoH.skipF 14 (some 118) (by kernel_rfl) hS233 ?_
              refine GoH.takeV 15 (.bool false) (.bool false) (some 119) (fun W_ => by kernel_rfl) rfl hS233 ?_
              refine GoH.takeF 16 (.bool true) (fun W_ => Try.prog.underlying 4 = some .bool ∧ W_ = W_ ∧ Value.bool true = .bool (((checkQ (Q.mk (opH 9) [qa])) == 0) == false)) (some 120) (fun W_ => by kernel_rfl) (fun W_ hW_ => ⟨by kernel_rfl, rfl, congrArg Value.bool (Eq.symm (by rw [(show (checkQ (Q.mk (opH 9) [qa]) == 0) = false by have J := check_not qa; rw [Bool.eq_iff_iff, beq_iff_eq, J]; first | (simp; done) | (simp; omega) | omega)]; simp))⟩) hS233 ?_
              refine GoH.takeV 17 (.bool true) (.bool true) (some 4) (fun W_ => by kernel_rfl) rfl hS233 ?_
              refine GoH.done [4] [(4, .bool true)] (by kernel_rfl) (by kernel_rfl) ?_
              have hM236 : Mem [] w w230 [] := hM232.sub (cn (cn (cn (List.Sublist.refl _))))
              refine GoS.ret (fn := Try.f5) (v := (.bool true)) Try.func5 (by kernel_rfl) ?_
              rw [hR]
              exact ⟨rfl, (hM236.sub (List.nil_sublist _)).below⟩
      ·
        have h43p : ¬ ((checkQ qa) = 0) := p_ne h43
        refine GoS.run [2, 3, 5, 6, 7, 8, 9] [.n, .n, .n, .n, .n] _ [.inRegion (cops (csub (cd Try.f5) [1,1,1,1,0])) [], .code (csub (cd Try.f5) [1,1,1,1,1])] [(2, pq b1), (3, pq b6), (5, .int .i64 (((sizeQ qa) : Nat) : Int)), (6, .int .i64 (((deepQ qa) : Nat) : Int)), (7, .int .i64 (((sizeQ qb) : Nat) : Int)), (8, .int .i64 (((deepQ qb) : Nat) : Int)), (9, .bool false)] w40 (by kernel_rfl) .nil ?_
        have o276 : (Instr.loadAt 25 (pq b1)).run Try.prog w40 = .ok ((qA ha va)) w40 := c_loads (ys := (qR ha va)) aE25 (hM42.rd 1 rfl) (cel_obj b1 0) rfl (by intro j u hj; match j, hj with | 0, hj => exact hj | 1, hj => exact hj | 2, hj => exact hj | 3, hj => exact hj | 4, hj => exact hj | 5, hj => exact hj | 6, hj => exact hj | 7, hj => exact hj | n + 8, hj => cases hj)
        have o277 : (Instr.loadAt 25 (pq b6)).run Try.prog w40 = .ok ((qA hb vb)) w40 := c_loads (ys := (qR hb vb)) aE25 (hM42.rd 0 rfl) (cel_obj b6 0) rfl (by intro j u hj; match j, hj with | 0, hj => exact hj | 1, hj => exact hj | 2, hj => exact hj | 3, hj => exact hj | 4, hj => exact hj | 5, hj => exact hj | 6, hj => exact hj | 7, hj => exact hj | n + 8, hj => cases hj)
        obtain ⟨v237, w238, hr239, hM240⟩ := m_lit sT23 hM42 (n := 2) (parts := #[(0, (qA ha va)), (1, (qA hb vb))]) (cs := (qRR ha va hb vb)) (by decide) (by kernel_rfl) rfl
        have o278 : (Instr.buildSlice 23 2 #[(0, (qA ha va)), (1, (qA hb vb))]).run Try.prog w40 = .ok v237 w238 := hr239
        have o279 : (Instr.build 25 #[(0, .int .i64 7), (7, v237)]).run Try.prog w238 = .ok ((qO 7 v237)) w238 := (by obtain ⟨a0_, m0_, c0_, e0_⟩ : ∃ a m c, v237 = Value.slice a m c := rd_form (hM240.rd 0 rfl); rw [e0_]; kernel_rfl)
        obtain ⟨b241, w242, hr243, hM244⟩ := m_alloc oT25 hM240
        have hM245 : Mem [] w w242 [⟨25, 8, (obj b241), 1, (qP 0 (.slice none 0 0))⟩, ⟨25, 8, v237, 2, (qRR ha va hb vb)⟩, ⟨25, 8, (obj b6), 1, (qR hb vb)⟩, ⟨25, 8, (obj b1), 1, (qR ha va)⟩] := hM244
        have o280 : (Instr.alloc 25 true (.tuple #[])).run Try.prog w238 = .ok (pq b241) w242 := hr243
        obtain ⟨w246, hr247, hM248⟩ := c_stores (ys := (qP 7 v237)) aE25 hM245 0 rfl (cel_obj b241 0) rfl (by decide) (by intro u hu; simp at hu; rcases hu with rfl | rfl | rfl | rfl | rfl | rfl | rfl | rfl <;> first | rfl | exact (rd_one (hM245.rd 1 rfl)))
        have hM249 : Mem [] w w246 [⟨25, 8, (obj b241), 1, (qP 7 v237)⟩, ⟨25, 8, v237, 2, (qRR ha va hb vb)⟩, ⟨25, 8, (obj b6), 1, (qR hb vb)⟩, ⟨25, 8, (obj b1), 1, (qR ha va)⟩] := hM248
        have o281 : (Instr.storeAt 25 (pq b241) ((qO 7 v237))).run Try.prog w242 = .ok () w246 ∧ undef = undef := ⟨hr247, rfl⟩
        have o282 : (Instr.loadAt 25 (pq b1)).run Try.prog w246 = .ok ((qA ha va)) w246 := c_loads (ys := (qR ha va)) aE25 (hM249.rd 3 rfl) (cel_obj b1 0) rfl (by intro j u hj; match j, hj with | 0, hj => exact hj | 1, hj => exact hj | 2, hj => exact hj | 3, hj => exact hj | 4, hj => exact hj | 5, hj => exact hj | 6, hj => exact hj | 7, hj => exact hj | n + 8, hj => cases hj)
        have o283 : (Instr.loadAt 25 (pq b6)).run Try.prog w246 = .ok ((qA hb vb)) w246 := c_loads (ys := (qR hb vb)) aE25 (hM249.rd 2 rfl) (cel_obj b6 0) rfl (by intro j u hj; match j, hj with | 0, hj => exact hj | 1, hj => exact hj | 2, hj => exact hj | 3, hj => exact hj | 4, hj => exact hj | 5, hj => exact hj | 6, hj => exact hj | 7, hj => exact hj | n + 8, hj => cases hj)
        obtain ⟨v250, w251, hr252, hM253⟩ := m_lit sT23 hM249 (n := 2) (parts := #[(0, (qA ha va)), (1, (qA hb vb))]) (cs := (qRR ha va hb vb)) (by decide) (by kernel_rfl) rfl
        have o284 : (Instr.buildSlice 23 2 #[(0, (qA ha va)), (1, (qA hb vb))]).run Try.prog w246 = .ok v250 w251 := hr252
        have o285 : (Instr.build 25 #[(0, .int .i64 8), (7, v250)]).run Try.prog w251 = .ok ((qO 8 v250)) w251 := (by obtain ⟨a0_, m0_, c0_, e0_⟩ : ∃ a m c, v250 = Value.slice a m c := rd_form (hM253.rd 0 rfl); rw [e0_]; kernel_rfl)
        obtain ⟨b254, w255, hr256, hM257⟩ := m_alloc oT25 hM253
        have hM258 : Mem [] w w255 [⟨25, 8, (obj b254), 1, (qP 0 (.slice none 0 0))⟩, ⟨25, 8, v250, 2, (qRR ha va hb vb)⟩, ⟨25, 8, (obj b241), 1, (qP 7 v237)⟩, ⟨25, 8, v237, 2, (qRR ha va hb vb)⟩, ⟨25, 8, (obj b6), 1, (qR hb vb)⟩, ⟨25, 8, (obj b1), 1, (qR ha va)⟩] := hM257
        have o286 : (Instr.alloc 25 true (.tuple #[])).run Try.prog w251 = .ok (pq b254) w255 := hr256
        obtain ⟨w259, hr260, hM261⟩ := c_stores (ys := (qP 8 v250)) aE25 hM258 0 rfl (cel_obj b254 0) rfl (by decide) (by intro u hu; simp at hu; rcases hu with rfl | rfl | rfl | rfl | rfl | rfl | rfl | rfl <;> first | rfl | exact (rd_one (hM258.rd 1 rfl)))
        have hM262 : Mem [] w w259 [⟨25, 8, (obj b254), 1, (qP 8 v250)⟩, ⟨25, 8, v250, 2, (qRR ha va hb vb)⟩, ⟨25, 8, (obj b241), 1, (qP 7 v237)⟩, ⟨25, 8, v237, 2, (qRR ha va hb vb)⟩, ⟨25, 8, (obj b6), 1, (qR hb vb)⟩, ⟨25, 8, (obj b1), 1, (qR ha va)⟩] := hM261
        have o287 : (Instr.storeAt 25 (pq b254) ((qO 8 v250))).run Try.prog w255 = .ok () w259 ∧ undef = undef := ⟨hr260, rfl⟩
        have o288 : (Instr.loadAt 25 (pq b1)).run Try.prog w259 = .ok ((qA ha va)) w259 := c_loads (ys := (qR ha va)) aE25 (hM262.rd 5 rfl) (cel_obj b1 0) rfl (by intro j u hj; match j, hj with | 0, hj => exact hj | 1, hj => exact hj | 2, hj => exact hj | 3, hj => exact hj | 4, hj => exact hj | 5, hj => exact hj | 6, hj => exact hj | 7, hj => exact hj | n + 8, hj => cases hj)
        obtain ⟨v263, w264, hr265, hM266⟩ := m_lit sT23 hM262 (n := 1) (parts := #[(0, (qA ha va))]) (cs := (qR ha va)) (by decide) (by kernel_rfl) rfl
        have o289 : (Instr.buildSlice 23 1 #[(0, (qA ha va))]).run Try.prog w259 = .ok v263 w264 := hr265
        have o290 : (Instr.build 25 #[(0, .int .i64 9), (7, v263)]).run Try.prog w264 = .ok ((qO 9 v263)) w264 := (by obtain ⟨a0_, m0_, c0_, e0_⟩ : ∃ a m c, v263 = Value.slice a m c := rd_form (hM266.rd 0 rfl); rw [e0_]; kernel_rfl)
        obtain ⟨b267, w268, hr269, hM270⟩ := m_alloc oT25 hM266
        have hM271 : Mem [] w w268 [⟨25, 8, (obj b267), 1, (qP 0 (.slice none 0 0))⟩, ⟨25, 8, v263, 1, (qR ha va)⟩, ⟨25, 8, (obj b254), 1, (qP 8 v250)⟩, ⟨25, 8, v250, 2, (qRR ha va hb vb)⟩, ⟨25, 8, (obj b241), 1, (qP 7 v237)⟩, ⟨25, 8, v237, 2, (qRR ha va hb vb)⟩, ⟨25, 8, (obj b6), 1, (qR hb vb)⟩, ⟨25, 8, (obj b1), 1, (qR ha va)⟩] := hM270
        have o291 : (Instr.alloc 25 true (.tuple #[])).run Try.prog w264 = .ok (pq b267) w268 := hr269
        obtain ⟨w272, hr273, hM274⟩ := c_stores (ys := (qP 9 v263)) aE25 hM271 0 rfl (cel_obj b267 0) rfl (by decide) (by intro u hu; simp at hu; rcases hu with rfl | rfl | rfl | rfl | rfl | rfl | rfl | rfl <;> first | rfl | exact (rd_one (hM271.rd 1 rfl)))
        have hM275 : Mem [] w w272 [⟨25, 8, (obj b267), 1, (qP 9 v263)⟩, ⟨25, 8, v263, 1, (qR ha va)⟩, ⟨25, 8, (obj b254), 1, (qP 8 v250)⟩, ⟨25, 8, v250, 2, (qRR ha va hb vb)⟩, ⟨25, 8, (obj b241), 1, (qP 7 v237)⟩, ⟨25, 8, v237, 2, (qRR ha va hb vb)⟩, ⟨25, 8, (obj b6), 1, (qR hb vb)⟩, ⟨25, 8, (obj b1), 1, (qR ha va)⟩] := hM274
        have o292 : (Instr.storeAt 25 (pq b267) ((qO 9 v263))).run Try.prog w268 = .ok () w272 ∧ undef = undef := ⟨hr273, rfl⟩
        have o293 : (Instr.loadAt 25 (pq b241)).run Try.prog w272 = .ok ((qO 7 v237)) w272 := c_loads (ys := (qP 7 v237)) aE25 (hM275.rd 4 rfl) (cel_obj b241 0) rfl (by intro j u hj; match j, hj with | 0, hj => exact hj | 1, hj => exact hj | 2, hj => exact hj | 3, hj => exact hj | 4, hj => exact hj | 5, hj => exact hj | 6, hj => exact hj | 7, hj => exact hj | n + 8, hj => cases hj)
        have hM294 : Mem [] w w272 [⟨25, 8, (obj b267), 1, (qP 9 v263)⟩, ⟨25, 8, v263, 1, (qR ha va)⟩, ⟨25, 8, (obj b254), 1, (qP 8 v250)⟩, ⟨25, 8, v250, 2, (qRR ha va hb vb)⟩, ⟨25, 8, (obj b241), 1, (qP 7 v237)⟩, ⟨25, 8, v237, 2, (qRR ha va hb vb)⟩, ⟨25, 8, (obj b1), 1, (qR ha va)⟩] := hM275.sub (cc (cc (cc (cc (cc (cc (cn (cc (List.Sublist.refl _)))))))))
        refine GoS.run [2, 5, 6, 7, 8, 9, 10, 11, 12, 55] [.n, .n, .n, .h ((qA ha va)), .h ((qA hb vb)), .u (v237) (w238), .h ((qO 7 v237)), .u (pq b241) (w242), .u (undef) (w246), .n, .n, .n, .h ((qA ha va)), .h ((qA hb vb)), .u (v250) (w251), .h ((qO 8 v250)), .u (pq b254) (w255), .u (undef) (w259), .n, .n, .n, .h ((qA ha va)), .u (v263) (w264), .h ((qO 9 v263)), .u (pq b267) (w268), .u (undef) (w272), .n, .n, .n, .h ((qO 7 v237))] _ [.inRegion (cops (csub (cd Try.f5) [1,1,1,1,1,1,1,1,0])) [1,2,3,4,5,6], .code (csub (cd Try.f5) [1,1,1,1,1,1,1,1,1])] [(2, pq b1), (5, .int .i64 (((sizeQ qa) : Nat) : Int)), (6, .int .i64 (((deepQ qa) : Nat) : Int)), (7, .int .i64 (((sizeQ qb) : Nat) : Int)), (8, .int .i64 (((deepQ qb) : Nat) : Int)), (9, .bool false), (10, pq b241), (11, pq b254), (12, pq b267), (55, (qO 7 v237))] w272 (by kernel_rfl) (.cons o276 (.cons o277 (.cons o278 (.cons o279 (.cons o280 (.cons o281 (.cons o282 (.cons o283 (.cons o284 (.cons o285 (.cons o286 (.cons o287 (.cons o288 (.cons o289 (.cons o290 (.cons o291 (.cons o292 (.cons o293 .nil)))))))))))))))))) ?_
        refine GoS.call [2, 5, 6, 7, 8, 9, 10, 11, 12] 10 #[(qO 7 v237)] (some 56) [.inRegion (cops (csub (cd Try.f5) [1,1,1,1,1,1,1,1,0])) [2,3,4,5,6], .code (csub (cd Try.f5) [1,1,1,1,1,1,1,1,1])] [(2, pq b1), (5, .int .i64 (((sizeQ qa) : Nat) : Int)), (6, .int .i64 (((deepQ qa) : Nat) : Int)), (7, .int .i64 (((sizeQ qb) : Nat) : Int)), (8, .int .i64 (((deepQ qb) : Nat) : Int)), (9, .bool false), (10, pq b241), (11, pq b254), (12, pq b267)] (by kernel_rfl) (size_c (Q.mk (opH 7) [qa, qb]) (opH 7) rfl v237 (RdQ.two2 (opH 7) (show Rd _ 8 v237 2 (recs qnC [⟨ha, va⟩, ⟨hb, vb⟩]) from hM294.rd 5 rfl) hea (hqa.kept hM294.kept) heb (hqb.kept hM294.kept)) (by first | omega | (rw [bulk_two]; omega) | (rw [bulk_one]; omega) | (refine Nat.le_trans (bulk_put (by omega)) (by omega)) | decide +kernel)) ?_
        rintro _ w295 ⟨rfl, m296⟩
        refine ⟨_, rfl, ?_⟩
        have hM297 := Mem.join hM294 m296
        refine GoS.run [2, 5, 6, 7, 8, 9, 10, 11, 12, 13, 14] [.n, .n, .n, .n, .n, .n, .n, .n, .n] _ [.inRegion (cops (csub (cd Try.f5) [1,1,1,1,1,1,1,1,1,0,0])) [0,1,2,3,4,5,6,7,8,9,10,11,12,13,14,15,16,17], .code (csub (cd Try.f5) [1,1,1,1,1,1,1,1,1,0,1]), .code (csub (cd Try.f5) [1,1,1,1,1,1,1,1,1,1])] [(2, pq b1), (5, .int .i64 (((sizeQ qa) : Nat) : Int)), (6, .int .i64 (((deepQ qa) : Nat) : Int)), (7, .int .i64 (((sizeQ qb) : Nat) : Int)), (8, .int .i64 (((deepQ qb) : Nat) : Int)), (9, .bool false), (10, pq b241), (11, pq b254), (12, pq b267), (13, .int .i64 (((sizeQ (Q.mk (opH 7) [qa, qb])) : Nat) : Int)), (14, .int .i64 (((deepQ (Q.mk (opH 7) [qa, qb])) : Nat) : Int))] w295 (by kernel_rfl) .nil ?_
        refine GoS.call [2, 5, 6, 7, 8, 9, 10, 11, 12, 13, 14] 8 #[] (some 59) [.inRegion (cops (csub (cd Try.f5) [1,1,1,1,1,1,1,1,1,0,0])) [1,2,3,4,5,6,7,8,9,10,11,12,13,14,15,16,17], .code (csub (cd Try.f5) [1,1,1,1,1,1,1,1,1,0,1]), .code (csub (cd Try.f5) [1,1,1,1,1,1,1,1,1,1])] [(2, pq b1), (5, .int .i64 (((sizeQ qa) : Nat) : Int)), (6, .int .i64 (((deepQ qa) : Nat) : Int)), (7, .int .i64 (((sizeQ qb) : Nat) : Int)), (8, .int .i64 (((deepQ qb) : Nat) : Int)), (9, .bool false), (10, pq b241), (11, pq b254), (12, pq b267), (13, .int .i64 (((sizeQ (Q.mk (opH 7) [qa, qb])) : Nat) : Int)), (14, .int .i64 (((deepQ (Q.mk (opH 7) [qa, qb])) : Nat) : Int))] (by kernel_rfl) (awake_c w295) ?_
        rintro _ w298 ⟨rfl, m299⟩
        refine ⟨_, rfl, ?_⟩
        have hM300 := Mem.join hM297 m299
        have o301 : (binOp .add 3 (.int .i64 (((sizeQ qa) : Nat) : Int)) (.int .i64 (((sizeQ qb) : Nat) : Int))).run Try.prog w298 = .ok (.int .i64 ((((sizeQ qa) + (sizeQ qb)) : Nat) : Int)) w298 := f_add (by rw [show (((sizeQ qa) : Nat) : Int) + (((sizeQ qb) : Nat) : Int) = ((((sizeQ qa) + (sizeQ qb)) : Nat) : Int) by omega]; exact IntWalk.i64_in _ (by omega))
        have o302 : (binOp .add 3 (.int .i64 ((((sizeQ qa) + (sizeQ qb)) : Nat) : Int)) (.int .i64 1)).run Try.prog w298 = .ok (.int .i64 (((((sizeQ qa) + (sizeQ qb)) + 1) : Nat) : Int)) w298 := f_add (by rw [show ((((sizeQ qa) + (sizeQ qb)) : Nat) : Int) + 1 = (((((sizeQ qa) + (sizeQ qb)) + 1) : Nat) : Int) by omega]; exact IntWalk.i64_in _ (by omega))
        have o303 : (IntKind.i64 = IntKind.i64) ∧ w298 = w298 ∧ Value.bool false = .bool ((((sizeQ (Q.mk (opH 7) [qa, qb])) : Nat) : Int) != (((((sizeQ qa) + (sizeQ qb)) + 1) : Nat) : Int)) := ⟨rfl, rfl, congrArg Value.bool (Eq.symm (bne_eq_false_iff_eq.2 (by rw [size_two])))⟩
        have o304 : (Builtin.max_ #[3, 3] 3 #[.int .i64 (((deepQ qa) : Nat) : Int), .int .i64 (((deepQ qb) : Nat) : Int)]).run Try.prog w298 = .ok (.int .i64 (((max (deepQ qa) (deepQ qb)) : Nat) : Int)) w298 := f_max (by split <;> omega)
        have o305 : (binOp .add 3 (.int .i64 (((max (deepQ qa) (deepQ qb)) : Nat) : Int)) (.int .i64 1)).run Try.prog w298 = .ok (.int .i64 ((((max (deepQ qa) (deepQ qb)) + 1) : Nat) : Int)) w298 := f_add (by rw [show (((max (deepQ qa) (deepQ qb)) : Nat) : Int) + 1 = ((((max (deepQ qa) (deepQ qb)) + 1) : Nat) : Int) by omega]; exact IntWalk.i64_in _ (by omega))
        have o306 : (IntKind.i64 = IntKind.i64) ∧ w298 = w298 ∧ Value.bool false = .bool ((((deepQ (Q.mk (opH 7) [qa, qb])) : Nat) : Int) != ((((max (deepQ qa) (deepQ qb)) + 1) : Nat) : Int)) := ⟨rfl, rfl, congrArg Value.bool (Eq.symm (bne_eq_false_iff_eq.2 (by rw [deep_two])))⟩
        have o307 : (binOp .add 3 (.int .i64 (((sizeQ qa) : Nat) : Int)) (.int .i64 (((sizeQ qb) : Nat) : Int))).run Try.prog w298 = .ok (.int .i64 ((((sizeQ qa) + (sizeQ qb)) : Nat) : Int)) w298 := f_add (by rw [show (((sizeQ qa) : Nat) : Int) + (((sizeQ qb) : Nat) : Int) = ((((sizeQ qa) + (sizeQ qb)) : Nat) : Int) by omega]; exact IntWalk.i64_in _ (by omega))
        have o308 : (binOp .add 3 (.int .i64 ((((sizeQ qa) + (sizeQ qb)) : Nat) : Int)) (.int .i64 1)).run Try.prog w298 = .ok (.int .i64 (((((sizeQ qa) + (sizeQ qb)) + 1) : Nat) : Int)) w298 := f_add (by rw [show ((((sizeQ qa) + (sizeQ qb)) : Nat) : Int) + 1 = (((((sizeQ qa) + (sizeQ qb)) + 1) : Nat) : Int) by omega]; exact IntWalk.i64_in _ (by omega))
        refine GoS.run [2, 5, 6, 8, 9, 10, 11, 12, 82] [.n, .n, .n, .n, .n, .h (.int .i64 ((((sizeQ qa) + (sizeQ qb)) : Nat) : Int)), .h (.int .i64 (((((sizeQ qa) + (sizeQ qb)) + 1) : Nat) : Int)), .h (.bool false), .n, .n, .n, .n, .n, .h (.int .i64 (((max (deepQ qa) (deepQ qb)) : Nat) : Int)), .h (.int .i64 ((((max (deepQ qa) (deepQ qb)) + 1) : Nat) : Int)), .h (.bool false), .n, .n, .n, .n, .n, .n, .n, .n, .h (.int .i64 ((((sizeQ qa) + (sizeQ qb)) : Nat) : Int)), .h (.int .i64 (((((sizeQ qa) + (sizeQ qb)) + 1) : Nat) : Int)), .n, .n] _ [.inRegion (cops (csub (cd Try.f5) [1,1,1,1,1,1,1,1,1,1,0])) [6,7,8,9,10,11,12], .code (csub (cd Try.f5) [1,1,1,1,1,1,1,1,1,1,1])] [(2, pq b1), (5, .int .i64 (((sizeQ qa) : Nat) : Int)), (6, .int .i64 (((deepQ qa) : Nat) : Int)), (8, .int .i64 (((deepQ qb) : Nat) : Int)), (9, .bool false), (10, pq b241), (11, pq b254), (12, pq b267), (82, .bool (decide ((((((sizeQ qa) + (sizeQ qb)) + 1) : Nat) : Int) ≤ 64)))] w298 (by kernel_rfl) (.cons o301 (.cons o302 (.cons o303 (.cons o304 (.cons o305 (.cons o306 (.cons o307 (.cons o308 .nil)))))))) ?_
        refine GoS.fork 82 (decide ((((((sizeQ qa) + (sizeQ qb)) + 1) : Nat) : Int) ≤ 64)) (by kernel_rfl) (fun h309 => ?_) (fun h309 => ?_)
        ·
          have h309p : (((((sizeQ qa) + (sizeQ qb)) + 1) : Nat) : Int) ≤ 64 := of_decide_eq_true h309
          have o310 : (Builtin.max_ #[3, 3] 3 #[.int .i64 (((deepQ qa) : Nat) : Int), .int .i64 (((deepQ qb) : Nat) : Int)]).run Try.prog w298 = .ok (.int .i64 (((max (deepQ qa) (deepQ qb)) : Nat) : Int)) w298 := f_max (by split <;> omega)
          have o311 : (binOp .add 3 (.int .i64 (((max (deepQ qa) (deepQ qb)) : Nat) : Int)) (.int .i64 1)).run Try.prog w298 = .ok (.int .i64 ((((max (deepQ qa) (deepQ qb)) + 1) : Nat) : Int)) w298 := f_add (by rw [show (((max (deepQ qa) (deepQ qb)) : Nat) : Int) + 1 = ((((max (deepQ qa) (deepQ qb)) + 1) : Nat) : Int) by omega]; exact IntWalk.i64_in _ (by omega))
          refine GoS.run [2, 5, 6, 9, 10, 11, 12, 15] [.n, .n, .h (.int .i64 (((max (deepQ qa) (deepQ qb)) : Nat) : Int)), .h (.int .i64 ((((max (deepQ qa) (deepQ qb)) + 1) : Nat) : Int)), .n, .n, .n] _ [.inRegion (cops (csub (cd Try.f5) [1,1,1,1,1,1,1,1,1,1,0])) [], .code (csub (cd Try.f5) [1,1,1,1,1,1,1,1,1,1,1])] [(2, pq b1), (5, .int .i64 (((sizeQ qa) : Nat) : Int)), (6, .int .i64 (((deepQ qa) : Nat) : Int)), (9, .bool false), (10, pq b241), (11, pq b254), (12, pq b267), (15, .bool (decide (((((max (deepQ qa) (deepQ qb)) + 1) : Nat) : Int) ≤ 8)))] w298 (by kernel_rfl) (.cons o310 (.cons o311 .nil)) ?_
          refine GoS.run [2, 5, 6, 9, 10, 11, 12, 15] [.n, .n, .n] _ [.code (csub (cd Try.f5) [1,1,1,1,1,1,1,1,1,1,1,0,0]), .code (csub (cd Try.f5) [1,1,1,1,1,1,1,1,1,1,1,0,1]), .code (csub (cd Try.f5) [1,1,1,1,1,1,1,1,1,1,1,1])] [(2, pq b1), (5, .int .i64 (((sizeQ qa) : Nat) : Int)), (6, .int .i64 (((deepQ qa) : Nat) : Int)), (9, .bool false), (10, pq b241), (11, pq b254), (12, pq b267), (15, .bool (decide (((((max (deepQ qa) (deepQ qb)) + 1) : Nat) : Int) ≤ 8)))] w298 (by kernel_rfl) .nil ?_
          obtain ⟨w312, hw313⟩ : ∃ w_, (w298).drewN 1 = w_ := ⟨_, rfl⟩
          refine GoS.held (fun W_ => Mem [] w W_ [⟨25, 8, (obj b267), 1, (qP 9 v263)⟩, ⟨25, 8, v263, 1, (qR ha va)⟩, ⟨25, 8, (obj b254), 1, (qP 8 v250)⟩, ⟨25, 8, v250, 2, (qRR ha va hb vb)⟩, ⟨25, 8, (obj b241), 1, (qP 7 v237)⟩, ⟨25, 8, v237, 2, (qRR ha va hb vb)⟩, ⟨25, 8, (obj b1), 1, (qR ha va)⟩]) [] 13 (by kernel_rfl) (by kernel_rfl) 15 (by kernel_rfl) ?_
          rw [hw313]
          have hM314 : Mem [] w w312 [⟨25, 8, (obj b267), 1, (qP 9 v263)⟩, ⟨25, 8, v263, 1, (qR ha va)⟩, ⟨25, 8, (obj b254), 1, (qP 8 v250)⟩, ⟨25, 8, v250, 2, (qRR ha va hb vb)⟩, ⟨25, 8, (obj b241), 1, (qP 7 v237)⟩, ⟨25, 8, v237, 2, (qRR ha va hb vb)⟩, ⟨25, 8, (obj b1), 1, (qR ha va)⟩] := hw313 ▸ hM300.ext (Kept.drewN _ _ 1)
          have hS315 : Mem [] w w312 [⟨25, 8, (obj b267), 1, (qP 9 v263)⟩, ⟨25, 8, v263, 1, (qR ha va)⟩, ⟨25, 8, (obj b254), 1, (qP 8 v250)⟩, ⟨25, 8, v250, 2, (qRR ha va hb vb)⟩, ⟨25, 8, (obj b241), 1, (qP 7 v237)⟩, ⟨25, 8, v237, 2, (qRR ha va hb vb)⟩, ⟨25, 8, (obj b1), 1, (qR ha va)⟩] := hM314.sub (cc (cc (cc (cc (cc (cc (cc (List.Sublist.refl _))))))))
          refine GoH.takeF 0 ((qO 7 v237)) (fun W_ => (Instr.loadAt 25 (pq b241)).run Try.prog W_ = .ok ((qO 7 v237)) W_) (some 89) (fun W_ => by kernel_rfl) (fun W_ hW_ => c_loads (ys := (qP 7 v237)) aE25 (hW_.rd 4 rfl) (cel_obj b241 0) rfl (by intro j u hj; match j, hj with | 0, hj => exact hj | 1, hj => exact hj | 2, hj => exact hj | 3, hj => exact hj | 4, hj => exact hj | 5, hj => exact hj | 6, hj => exact hj | 7, hj => exact hj | n + 8, hj => cases hj)) hS315 ?_
          refine GoH.takeV 3 (.bool false) (.bool false) (some 92) (fun W_ => by kernel_rfl) rfl hS315 ?_
          refine GoH.callF 1 13 #[(qO 7 v237)] (some 90) (by kernel_rfl) (check_c (Q.mk (opH 7) [qa, qb]) (opH 7) rfl v237 (RdQ.two2 (opH 7) (show Rd _ 8 v237 2 (recs qnC [⟨ha, va⟩, ⟨hb, vb⟩]) from hM314.rd 5 rfl) hea (hqa.kept hM314.kept) heb (hqb.kept hM314.kept)) (by first | omega | (rw [bulk_two]; omega) | (rw [bulk_one]; omega) | (refine Nat.le_trans (bulk_put (by omega)) (by omega)) | decide +kernel)) ?_
          rintro _ w316 ⟨rfl, m317⟩
          have hM318 := Mem.join hM314 m317
          have hS319 : Mem [] w w316 [⟨25, 8, (obj b267), 1, (qP 9 v263)⟩, ⟨25, 8, v263, 1, (qR ha va)⟩, ⟨25, 8, (obj b254), 1, (qP 8 v250)⟩, ⟨25, 8, v250, 2, (qRR ha va hb vb)⟩, ⟨25, 8, (obj b241), 1, (qP 7 v237)⟩, ⟨25, 8, v237, 2, (qRR ha va hb vb)⟩, ⟨25, 8, (obj b1), 1, (qR ha va)⟩] := hM318.sub (cc (cc (cc (cc (cc (cc (cc (List.Sublist.refl _))))))))
          refine ⟨.int .i64 (checkQ (Q.mk (opH 7) [qa, qb])), rfl, .inr hS319, ?_⟩
          refine GoH.takeV 2 (.bool ((checkQ (Q.mk (opH 7) [qa, qb])) == 0)) (.bool ((checkQ (Q.mk (opH 7) [qa, qb])) == 0)) (some 91) (fun W_ => by kernel_rfl) rfl hS319 ?_
          refine GoH.takeV 4 (.bool false) (.bool false) (some 93) (fun W_ => by kernel_rfl) rfl hS319 ?_
          refine GoH.skipF 5 (some 94) (by kernel_rfl) hS319 ?_
          refine GoH.takeV 6 (.bool false) (.bool false) (some 95) (fun W_ => by kernel_rfl) rfl hS319 ?_
          refine GoH.takeF 7 (.bool false) (fun W_ => Try.prog.underlying 4 = some .bool ∧ W_ = W_ ∧ Value.bool false = .bool (!(((checkQ (Q.mk (opH 7) [qa, qb])) == 0) == false))) (some 96) (fun W_ => by kernel_rfl) (fun W_ hW_ => ⟨by kernel_rfl, rfl, congrArg Value.bool (Eq.symm (by rw [(show (checkQ (Q.mk (opH 7) [qa, qb]) == 0) = false by have J := check_join 7 (.inl rfl) qa qb; rw [Bool.eq_iff_iff, beq_iff_eq, J]; first | (simp; done) | (simp; omega) | omega)]; simp))⟩) hS319 ?_
          refine GoH.takeV 8 (.bool false) (.bool false) (some 97) (fun W_ => by kernel_rfl) rfl hS319 ?_
          refine GoH.takeF 9 ((qO 8 v250)) (fun W_ => (Instr.loadAt 25 (pq b254)).run Try.prog W_ = .ok ((qO 8 v250)) W_) (some 98) (fun W_ => by kernel_rfl) (fun W_ hW_ => c_loads (ys := (qP 8 v250)) aE25 (hW_.rd 2 rfl) (cel_obj b254 0) rfl (by intro j u hj; match j, hj with | 0, hj => exact hj | 1, hj => exact hj | 2, hj => exact hj | 3, hj => exact hj | 4, hj => exact hj | 5, hj => exact hj | 6, hj => exact hj | 7, hj => exact hj | n + 8, hj => cases hj)) hS319 ?_
          refine GoH.takeF 11 ((qO 7 v237)) (fun W_ => (Instr.loadAt 25 (pq b241)).run Try.prog W_ = .ok ((qO 7 v237)) W_) (some 100) (fun W_ => by kernel_rfl) (fun W_ hW_ => c_loads (ys := (qP 7 v237)) aE25 (hW_.rd 4 rfl) (cel_obj b241 0) rfl (by intro j u hj; match j, hj with | 0, hj => exact hj | 1, hj => exact hj | 2, hj => exact hj | 3, hj => exact hj | 4, hj => exact hj | 5, hj => exact hj | 6, hj => exact hj | 7, hj => exact hj | n + 8, hj => cases hj)) hS319 ?_
          refine GoH.callF 10 13 #[(qO 8 v250)] (some 99) (by kernel_rfl) (check_c (Q.mk (opH 8) [qa, qb]) (opH 8) rfl v250 (RdQ.two2 (opH 8) (show Rd _ 8 v250 2 (recs qnC [⟨ha, va⟩, ⟨hb, vb⟩]) from hM318.rd 3 rfl) hea (hqa.kept hM318.kept) heb (hqb.kept hM318.kept)) (by first | omega | (rw [bulk_two]; omega) | (rw [bulk_one]; omega) | (refine Nat.le_trans (bulk_put (by omega)) (by omega)) | decide +kernel)) ?_
          rintro _ w320 ⟨rfl, m321⟩
          have hM322 := Mem.join hM318 m321
          have hS323 : Mem [] w w320 [⟨25, 8, (obj b267), 1, (qP 9 v263)⟩, ⟨25, 8, v263, 1, (qR ha va)⟩, ⟨25, 8, (obj b254), 1, (qP 8 v250)⟩, ⟨25, 8, v250, 2, (qRR ha va hb vb)⟩, ⟨25, 8, (obj b241), 1, (qP 7 v237)⟩, ⟨25, 8, v237, 2, (qRR ha va hb vb)⟩, ⟨25, 8, (obj b1), 1, (qR ha va)⟩] := hM322.sub (cc (cc (cc (cc (cc (cc (cc (List.Sublist.refl _))))))))
          refine ⟨.int .i64 (checkQ (Q.mk (opH 8) [qa, qb])), rfl, .inr hS323, ?_⟩
          refine GoH.callF 12 13 #[(qO 7 v237)] (some 101) (by kernel_rfl) (check_c (Q.mk (opH 7) [qa, qb]) (opH 7) rfl v237 (RdQ.two2 (opH 7) (show Rd _ 8 v237 2 (recs qnC [⟨ha, va⟩, ⟨hb, vb⟩]) from hM322.rd 5 rfl) hea (hqa.kept hM322.kept) heb (hqb.kept hM322.kept)) (by first | omega | (rw [bulk_two]; omega) | (rw [bulk_one]; omega) | (refine Nat.le_trans (bulk_put (by omega)) (by omega)) | decide +kernel)) ?_
          rintro _ w324 ⟨rfl, m325⟩
          have hM326 := Mem.join hM322 m325
          have hS327 : Mem [] w w324 [⟨25, 8, (obj b267), 1, (qP 9 v263)⟩, ⟨25, 8, v263, 1, (qR ha va)⟩, ⟨25, 8, (obj b254), 1, (qP 8 v250)⟩, ⟨25, 8, v250, 2, (qRR ha va hb vb)⟩, ⟨25, 8, (obj b241), 1, (qP 7 v237)⟩, ⟨25, 8, v237, 2, (qRR ha va hb vb)⟩, ⟨25, 8, (obj b1), 1, (qR ha va)⟩] := hM326.sub (cc (cc (cc (cc (cc (cc (cc (List.Sublist.refl _))))))))
          refine ⟨.int .i64 (checkQ (Q.mk (opH 7) [qa, qb])), rfl, .inr hS327, ?_⟩
          refine GoH.takeF 13 (.bool false) (fun W_ => (IntKind.i64 = IntKind.i64) ∧ W_ = W_ ∧ Value.bool false = .bool ((checkQ (Q.mk (opH 8) [qa, qb])) != (checkQ (Q.mk (opH 7) [qa, qb])))) (some 102) (fun W_ => by kernel_rfl) (fun W_ hW_ => ⟨rfl, rfl, congrArg Value.bool (Eq.symm (bne_eq_false_iff_eq.2 (check_or qa qb)))⟩) hS327 ?_
          refine GoH.takeV 14 (.bool false) (.bool false) (some 103) (fun W_ => by kernel_rfl) rfl hS327 ?_
          refine GoH.done [2, 5, 6, 12, 103] [(2, pq b1), (5, .int .i64 (((sizeQ qa) : Nat) : Int)), (6, .int .i64 (((deepQ qa) : Nat) : Int)), (12, pq b267), (103, .bool false)] (by kernel_rfl) (by kernel_rfl) ?_
          have hM328 : Mem [] w w324 [⟨25, 8, (obj b267), 1, (qP 9 v263)⟩, ⟨25, 8, v263, 1, (qR ha va)⟩, ⟨25, 8, (obj b1), 1, (qR ha va)⟩] := hM326.sub (cc (cc (cn (cn (cn (cn (cc (List.Sublist.refl _))))))))
          refine GoS.run [2, 5, 6, 12] [.n, .n, .n] _ [.code (csub (cd Try.f5) [1,1,1,1,1,1,1,1,1,1,1,1,0]), .code (csub (cd Try.f5) [1,1,1,1,1,1,1,1,1,1,1,1,1])] [(2, pq b1), (5, .int .i64 (((sizeQ qa) : Nat) : Int)), (6, .int .i64 (((deepQ qa) : Nat) : Int)), (12, pq b267)] w324 (by kernel_rfl) .nil ?_
          obtain ⟨w329, hw330⟩ : ∃ w_, (w324).drewN 1 = w_ := ⟨_, rfl⟩
          refine GoS.held (fun W_ => Mem [] w W_ [⟨25, 8, (obj b267), 1, (qP 9 v263)⟩, ⟨25, 8, v263, 1, (qR ha va)⟩, ⟨25, 8, (obj b1), 1, (qR ha va)⟩]) [] 15 (by kernel_rfl) (by kernel_rfl) 18 (by kernel_rfl) ?_
          rw [hw330]
          have hM331 : Mem [] w w329 [⟨25, 8, (obj b267), 1, (qP 9 v263)⟩, ⟨25, 8, v263, 1, (qR ha va)⟩, ⟨25, 8, (obj b1), 1, (qR ha va)⟩] := hw330 ▸ hM328.ext (Kept.drewN _ _ 1)
          have hS332 : Mem [] w w329 [⟨25, 8, (obj b267), 1, (qP 9 v263)⟩, ⟨25, 8, v263, 1, (qR ha va)⟩, ⟨25, 8, (obj b1), 1, (qR ha va)⟩] := hM331.sub (cc (cc (cc (List.Sublist.refl _))))
          refine GoH.takeF 0 ((qO 9 v263)) (fun W_ => (Instr.loadAt 25 (pq b267)).run Try.prog W_ = .ok ((qO 9 v263)) W_) (some 104) (fun W_ => by kernel_rfl) (fun W_ hW_ => c_loads (ys := (qP 9 v263)) aE25 (hW_.rd 0 rfl) (cel_obj b267 0) rfl (by intro j u hj; match j, hj with | 0, hj => exact hj | 1, hj => exact hj | 2, hj => exact hj | 3, hj => exact hj | 4, hj => exact hj | 5, hj => exact hj | 6, hj => exact hj | 7, hj => exact hj | n + 8, hj => cases hj)) hS332 ?_
          refine GoH.takeF 3 ((qA ha va)) (fun W_ => (Instr.loadAt 25 (pq b1)).run Try.prog W_ = .ok ((qA ha va)) W_) (some 107) (fun W_ => by kernel_rfl) (fun W_ hW_ => c_loads (ys := (qR ha va)) aE25 (hW_.rd 2 rfl) (cel_obj b1 0) rfl (by intro j u hj; match j, hj with | 0, hj => exact hj | 1, hj => exact hj | 2, hj => exact hj | 3, hj => exact hj | 4, hj => exact hj | 5, hj => exact hj | 6, hj => exact hj | 7, hj => exact hj | n + 8, hj => cases hj)) hS332 ?_
          refine GoH.callF 1 13 #[(qO 9 v263)] (some 105) (by kernel_rfl) (check_c (Q.mk (opH 9) [qa]) (opH 9) rfl v263 (RdQ.one1 (opH 9) (show Rd _ 8 v263 1 (recs qnC [⟨ha, va⟩]) from hM331.rd 1 rfl) hea (hqa.kept hM331.kept)) (by first | omega | (rw [bulk_two]; omega) | (rw [bulk_one]; omega) | (refine Nat.le_trans (bulk_put (by omega)) (by omega)) | decide +kernel)) ?_
          rintro _ w333 ⟨rfl, m334⟩
          have hM335 := Mem.join hM331 m334
          have hS336 : Mem [] w w333 [⟨25, 8, (obj b267), 1, (qP 9 v263)⟩, ⟨25, 8, v263, 1, (qR ha va)⟩, ⟨25, 8, (obj b1), 1, (qR ha va)⟩] := hM335.sub (cc (cc (cc (List.Sublist.refl _))))
          refine ⟨.int .i64 (checkQ (Q.mk (opH 9) [qa])), rfl, .inr hS336, ?_⟩
          refine GoH.takeV 2 (.bool ((checkQ (Q.mk (opH 9) [qa])) == 0)) (.bool ((checkQ (Q.mk (opH 9) [qa])) == 0)) (some 106) (fun W_ => by kernel_rfl) rfl hS336 ?_
          refine GoH.callF 4 13 #[(qA ha va)] (some 108) (by kernel_rfl) (check_c qa ha hea va (hqa.kept hM335.kept) (by first | omega | (rw [bulk_two]; omega) | (rw [bulk_one]; omega) | (refine Nat.le_trans (bulk_put (by omega)) (by omega)) | decide +kernel)) ?_
          rintro _ w337 ⟨rfl, m338⟩
          have hM339 := Mem.join hM335 m338
          have hS340 : Mem [] w w337 [⟨25, 8, (obj b267), 1, (qP 9 v263)⟩, ⟨25, 8, v263, 1, (qR ha va)⟩, ⟨25, 8, (obj b1), 1, (qR ha va)⟩] := hM339.sub (cc (cc (cc (List.Sublist.refl _))))
          refine ⟨.int .i64 (checkQ qa), rfl, .inr hS340, ?_⟩
          refine GoH.takeV 5 (.bool ((checkQ qa) == 0)) (.bool ((checkQ qa) == 0)) (some 109) (fun W_ => by kernel_rfl) rfl hS340 ?_
          refine GoH.takeV 6 (.bool ((checkQ qa) == 0)) (.bool false) (some 110) (fun W_ => by kernel_rfl) (congrArg Value.bool h43) hS340 ?_
          refine GoH.skipF 7 (some 111) (by kernel_rfl) hS340 ?_
          refine GoH.skipF 8 (some 112) (by kernel_rfl) hS340 ?_
          refine GoH.skipF 9 (some 113) (by kernel_rfl) hS340 ?_
          refine GoH.takeV 10 (.bool false) (.bool false) (some 114) (fun W_ => by kernel_rfl) rfl hS340 ?_
          refine GoH.takeV 11 (.bool false) (.bool false) (some 115) (fun W_ => by kernel_rfl) rfl hS340 ?_
          refine GoH.skipF 12 (some 116) (by kernel_rfl) hS340 ?_
          refine GoH.skipF 13 (some 117) (by kernel_rfl) hS340 ?_
          refine GoH.skipF 14 (some 118) (by kernel_rfl) hS340 ?_
          refine GoH.takeV 15 (.bool false) (.bool false) (some 119) (fun W_ => by kernel_rfl) rfl hS340 ?_
          refine GoH.takeF 16 (.bool true) (fun W_ => Try.prog.underlying 4 = some .bool ∧ W_ = W_ ∧ Value.bool true = .bool (((checkQ (Q.mk (opH 9) [qa])) == 0) == false)) (some 120) (fun W_ => by kernel_rfl) (fun W_ hW_ => ⟨by kernel_rfl, rfl, congrArg Value.bool (Eq.symm (by rw [(show (checkQ (Q.mk (opH 9) [qa]) == 0) = false by have J := check_not qa; rw [Bool.eq_iff_iff, beq_iff_eq, J]; first | (simp; done) | (simp; omega) | omega)]; simp))⟩) hS340 ?_
          refine GoH.takeV 17 (.bool true) (.bool true) (some 4) (fun W_ => by kernel_rfl) rfl hS340 ?_
          refine GoH.done [4] [(4, .bool true)] (by kernel_rfl) (by kernel_rfl) ?_
          have hM341 : Mem [] w w337 [] := hM339.sub (cn (cn (cn (List.Sublist.refl _))))
          refine GoS.ret (fn := Try.f5) (v := (.bool true)) Try.func5 (by kernel_rfl) ?_
          rw [hR]
          exact ⟨rfl, (hM341.sub (List.nil_sublist _)).below⟩
        ·
          have h309p : ¬ ((((((sizeQ qa) + (sizeQ qb)) + 1) : Nat) : Int) ≤ 64) := of_decide_eq_false h309
          refine GoS.run [2, 5, 6, 9, 10, 11, 12, 15] [.n, .n, .n, .n, .n, .n, .n] _ [.inRegion (cops (csub (cd Try.f5) [1,1,1,1,1,1,1,1,1,1,0])) [], .code (csub (cd Try.f5) [1,1,1,1,1,1,1,1,1,1,1])] [(2, pq b1), (5, .int .i64 (((sizeQ qa) : Nat) : Int)), (6, .int .i64 (((deepQ qa) : Nat) : Int)), (9, .bool false), (10, pq b241), (11, pq b254), (12, pq b267), (15, .bool false)] w298 (by kernel_rfl) .nil ?_
          refine GoS.run [2, 5, 6, 9, 10, 11, 12, 15] [.n, .n, .n] _ [.code (csub (cd Try.f5) [1,1,1,1,1,1,1,1,1,1,1,0,0]), .code (csub (cd Try.f5) [1,1,1,1,1,1,1,1,1,1,1,0,1]), .code (csub (cd Try.f5) [1,1,1,1,1,1,1,1,1,1,1,1])] [(2, pq b1), (5, .int .i64 (((sizeQ qa) : Nat) : Int)), (6, .int .i64 (((deepQ qa) : Nat) : Int)), (9, .bool false), (10, pq b241), (11, pq b254), (12, pq b267), (15, .bool false)] w298 (by kernel_rfl) .nil ?_
          obtain ⟨w342, hw343⟩ : ∃ w_, (w298).drewN 1 = w_ := ⟨_, rfl⟩
          refine GoS.held (fun W_ => Mem [] w W_ [⟨25, 8, (obj b267), 1, (qP 9 v263)⟩, ⟨25, 8, v263, 1, (qR ha va)⟩, ⟨25, 8, (obj b254), 1, (qP 8 v250)⟩, ⟨25, 8, v250, 2, (qRR ha va hb vb)⟩, ⟨25, 8, (obj b241), 1, (qP 7 v237)⟩, ⟨25, 8, v237, 2, (qRR ha va hb vb)⟩, ⟨25, 8, (obj b1), 1, (qR ha va)⟩]) [] 13 (by kernel_rfl) (by kernel_rfl) 15 (by kernel_rfl) ?_
          rw [hw343]
          have hM344 : Mem [] w w342 [⟨25, 8, (obj b267), 1, (qP 9 v263)⟩, ⟨25, 8, v263, 1, (qR ha va)⟩, ⟨25, 8, (obj b254), 1, (qP 8 v250)⟩, ⟨25, 8, v250, 2, (qRR ha va hb vb)⟩, ⟨25, 8, (obj b241), 1, (qP 7 v237)⟩, ⟨25, 8, v237, 2, (qRR ha va hb vb)⟩, ⟨25, 8, (obj b1), 1, (qR ha va)⟩] := hw343 ▸ hM300.ext (Kept.drewN _ _ 1)
          have hS345 : Mem [] w w342 [⟨25, 8, (obj b267), 1, (qP 9 v263)⟩, ⟨25, 8, v263, 1, (qR ha va)⟩, ⟨25, 8, (obj b254), 1, (qP 8 v250)⟩, ⟨25, 8, v250, 2, (qRR ha va hb vb)⟩, ⟨25, 8, (obj b241), 1, (qP 7 v237)⟩, ⟨25, 8, v237, 2, (qRR ha va hb vb)⟩, ⟨25, 8, (obj b1), 1, (qR ha va)⟩] := hM344.sub (cc (cc (cc (cc (cc (cc (cc (List.Sublist.refl _))))))))
          refine GoH.takeF 0 ((qO 7 v237)) (fun W_ => (Instr.loadAt 25 (pq b241)).run Try.prog W_ = .ok ((qO 7 v237)) W_) (some 89) (fun W_ => by kernel_rfl) (fun W_ hW_ => c_loads (ys := (qP 7 v237)) aE25 (hW_.rd 4 rfl) (cel_obj b241 0) rfl (by intro j u hj; match j, hj with | 0, hj => exact hj | 1, hj => exact hj | 2, hj => exact hj | 3, hj => exact hj | 4, hj => exact hj | 5, hj => exact hj | 6, hj => exact hj | 7, hj => exact hj | n + 8, hj => cases hj)) hS345 ?_
          refine GoH.takeV 3 (.bool false) (.bool false) (some 92) (fun W_ => by kernel_rfl) rfl hS345 ?_
          refine GoH.callF 1 13 #[(qO 7 v237)] (some 90) (by kernel_rfl) (check_c (Q.mk (opH 7) [qa, qb]) (opH 7) rfl v237 (RdQ.two2 (opH 7) (show Rd _ 8 v237 2 (recs qnC [⟨ha, va⟩, ⟨hb, vb⟩]) from hM344.rd 5 rfl) hea (hqa.kept hM344.kept) heb (hqb.kept hM344.kept)) (by first | omega | (rw [bulk_two]; omega) | (rw [bulk_one]; omega) | (refine Nat.le_trans (bulk_put (by omega)) (by omega)) | decide +kernel)) ?_
          rintro _ w346 ⟨rfl, m347⟩
          have hM348 := Mem.join hM344 m347
          have hS349 : Mem [] w w346 [⟨25, 8, (obj b267), 1, (qP 9 v263)⟩, ⟨25, 8, v263, 1, (qR ha va)⟩, ⟨25, 8, (obj b254), 1, (qP 8 v250)⟩, ⟨25, 8, v250, 2, (qRR ha va hb vb)⟩, ⟨25, 8, (obj b241), 1, (qP 7 v237)⟩, ⟨25, 8, v237, 2, (qRR ha va hb vb)⟩, ⟨25, 8, (obj b1), 1, (qR ha va)⟩] := hM348.sub (cc (cc (cc (cc (cc (cc (cc (List.Sublist.refl _))))))))
          refine ⟨.int .i64 (checkQ (Q.mk (opH 7) [qa, qb])), rfl, .inr hS349, ?_⟩
          refine GoH.takeV 2 (.bool ((checkQ (Q.mk (opH 7) [qa, qb])) == 0)) (.bool ((checkQ (Q.mk (opH 7) [qa, qb])) == 0)) (some 91) (fun W_ => by kernel_rfl) rfl hS349 ?_
          refine GoH.takeV 4 (.bool false) (.bool false) (some 93) (fun W_ => by kernel_rfl) rfl hS349 ?_
          refine GoH.skipF 5 (some 94) (by kernel_rfl) hS349 ?_
          refine GoH.takeV 6 (.bool false) (.bool false) (some 95) (fun W_ => by kernel_rfl) rfl hS349 ?_
          refine GoH.takeF 7 (.bool false) (fun W_ => Try.prog.underlying 4 = some .bool ∧ W_ = W_ ∧ Value.bool false = .bool (!(((checkQ (Q.mk (opH 7) [qa, qb])) == 0) == false))) (some 96) (fun W_ => by kernel_rfl) (fun W_ hW_ => ⟨by kernel_rfl, rfl, congrArg Value.bool (Eq.symm (by rw [(show (checkQ (Q.mk (opH 7) [qa, qb]) == 0) = false by have J := check_join 7 (.inl rfl) qa qb; rw [Bool.eq_iff_iff, beq_iff_eq, J]; first | (simp; done) | (simp; omega) | omega)]; simp))⟩) hS349 ?_
          refine GoH.takeV 8 (.bool false) (.bool false) (some 97) (fun W_ => by kernel_rfl) rfl hS349 ?_
          refine GoH.takeF 9 ((qO 8 v250)) (fun W_ => (Instr.loadAt 25 (pq b254)).run Try.prog W_ = .ok ((qO 8 v250)) W_) (some 98) (fun W_ => by kernel_rfl) (fun W_ hW_ => c_loads (ys := (qP 8 v250)) aE25 (hW_.rd 2 rfl) (cel_obj b254 0) rfl (by intro j u hj; match j, hj with | 0, hj => exact hj | 1, hj => exact hj | 2, hj => exact hj | 3, hj => exact hj | 4, hj => exact hj | 5, hj => exact hj | 6, hj => exact hj | 7, hj => exact hj | n + 8, hj => cases hj)) hS349 ?_
          refine GoH.takeF 11 ((qO 7 v237)) (fun W_ => (Instr.loadAt 25 (pq b241)).run Try.prog W_ = .ok ((qO 7 v237)) W_) (some 100) (fun W_ => by kernel_rfl) (fun W_ hW_ => c_loads (ys := (qP 7 v237)) aE25 (hW_.rd 4 rfl) (cel_obj b241 0) rfl (by intro j u hj; match j, hj with | 0, hj => exact hj | 1, hj => exact hj | 2, hj => exact hj | 3, hj => exact hj | 4, hj => exact hj | 5, hj => exact hj | 6, hj => exact hj | 7, hj => exact hj | n + 8, hj => cases hj)) hS349 ?_
          refine GoH.callF 10 13 #[(qO 8 v250)] (some 99) (by kernel_rfl) (check_c (Q.mk (opH 8) [qa, qb]) (opH 8) rfl v250 (RdQ.two2 (opH 8) (show Rd _ 8 v250 2 (recs qnC [⟨ha, va⟩, ⟨hb, vb⟩]) from hM348.rd 3 rfl) hea (hqa.kept hM348.kept) heb (hqb.kept hM348.kept)) (by first | omega | (rw [bulk_two]; omega) | (rw [bulk_one]; omega) | (refine Nat.le_trans (bulk_put (by omega)) (by omega)) | decide +kernel)) ?_
          rintro _ w350 ⟨rfl, m351⟩
          have hM352 := Mem.join hM348 m351
          have hS353 : Mem [] w w350 [⟨25, 8, (obj b267), 1, (qP 9 v263)⟩, ⟨25, 8, v263, 1, (qR ha va)⟩, ⟨25, 8, (obj b254), 1, (qP 8 v250)⟩, ⟨25, 8, v250, 2, (qRR ha va hb vb)⟩, ⟨25, 8, (obj b241), 1, (qP 7 v237)⟩, ⟨25, 8, v237, 2, (qRR ha va hb vb)⟩, ⟨25, 8, (obj b1), 1, (qR ha va)⟩] := hM352.sub (cc (cc (cc (cc (cc (cc (cc (List.Sublist.refl _))))))))
          refine ⟨.int .i64 (checkQ (Q.mk (opH 8) [qa, qb])), rfl, .inr hS353, ?_⟩
          refine GoH.callF 12 13 #[(qO 7 v237)] (some 101) (by kernel_rfl) (check_c (Q.mk (opH 7) [qa, qb]) (opH 7) rfl v237 (RdQ.two2 (opH 7) (show Rd _ 8 v237 2 (recs qnC [⟨ha, va⟩, ⟨hb, vb⟩]) from hM352.rd 5 rfl) hea (hqa.kept hM352.kept) heb (hqb.kept hM352.kept)) (by first | omega | (rw [bulk_two]; omega) | (rw [bulk_one]; omega) | (refine Nat.le_trans (bulk_put (by omega)) (by omega)) | decide +kernel)) ?_
          rintro _ w354 ⟨rfl, m355⟩
          have hM356 := Mem.join hM352 m355
          have hS357 : Mem [] w w354 [⟨25, 8, (obj b267), 1, (qP 9 v263)⟩, ⟨25, 8, v263, 1, (qR ha va)⟩, ⟨25, 8, (obj b254), 1, (qP 8 v250)⟩, ⟨25, 8, v250, 2, (qRR ha va hb vb)⟩, ⟨25, 8, (obj b241), 1, (qP 7 v237)⟩, ⟨25, 8, v237, 2, (qRR ha va hb vb)⟩, ⟨25, 8, (obj b1), 1, (qR ha va)⟩] := hM356.sub (cc (cc (cc (cc (cc (cc (cc (List.Sublist.refl _))))))))
          refine ⟨.int .i64 (checkQ (Q.mk (opH 7) [qa, qb])), rfl, .inr hS357, ?_⟩
          refine GoH.takeF 13 (.bool false) (fun W_ => (IntKind.i64 = IntKind.i64) ∧ W_ = W_ ∧ Value.bool false = .bool ((checkQ (Q.mk (opH 8) [qa, qb])) != (checkQ (Q.mk (opH 7) [qa, qb])))) (some 102) (fun W_ => by kernel_rfl) (fun W_ hW_ => ⟨rfl, rfl, congrArg Value.bool (Eq.symm (bne_eq_false_iff_eq.2 (check_or qa qb)))⟩) hS357 ?_
          refine GoH.takeV 14 (.bool false) (.bool false) (some 103) (fun W_ => by kernel_rfl) rfl hS357 ?_
          refine GoH.done [2, 5, 6, 12, 103] [(2, pq b1), (5, .int .i64 (((sizeQ qa) : Nat) : Int)), (6, .int .i64 (((deepQ qa) : Nat) : Int)), (12, pq b267), (103, .bool false)] (by kernel_rfl) (by kernel_rfl) ?_
          have hM358 : Mem [] w w354 [⟨25, 8, (obj b267), 1, (qP 9 v263)⟩, ⟨25, 8, v263, 1, (qR ha va)⟩, ⟨25, 8, (obj b1), 1, (qR ha va)⟩] := hM356.sub (cc (cc (cn (cn (cn (cn (cc (List.Sublist.refl _))))))))
          refine GoS.run [2, 5, 6, 12] [.n, .n, .n] _ [.code (csub (cd Try.f5) [1,1,1,1,1,1,1,1,1,1,1,1,0]), .code (csub (cd Try.f5) [1,1,1,1,1,1,1,1,1,1,1,1,1])] [(2, pq b1), (5, .int .i64 (((sizeQ qa) : Nat) : Int)), (6, .int .i64 (((deepQ qa) : Nat) : Int)), (12, pq b267)] w354 (by kernel_rfl) .nil ?_
          obtain ⟨w359, hw360⟩ : ∃ w_, (w354).drewN 1 = w_ := ⟨_, rfl⟩
          refine GoS.held (fun W_ => Mem [] w W_ [⟨25, 8, (obj b267), 1, (qP 9 v263)⟩, ⟨25, 8, v263, 1, (qR ha va)⟩, ⟨25, 8, (obj b1), 1, (qR ha va)⟩]) [] 15 (by kernel_rfl) (by kernel_rfl) 18 (by kernel_rfl) ?_
          rw [hw360]
          have hM361 : Mem [] w w359 [⟨25, 8, (obj b267), 1, (qP 9 v263)⟩, ⟨25, 8, v263, 1, (qR ha va)⟩, ⟨25, 8, (obj b1), 1, (qR ha va)⟩] := hw360 ▸ hM358.ext (Kept.drewN _ _ 1)
          have hS362 : Mem [] w w359 [⟨25, 8, (obj b267), 1, (qP 9 v263)⟩, ⟨25, 8, v263, 1, (qR ha va)⟩, ⟨25, 8, (obj b1), 1, (qR ha va)⟩] := hM361.sub (cc (cc (cc (List.Sublist.refl _))))
          refine GoH.takeF 0 ((qO 9 v263)) (fun W_ => (Instr.loadAt 25 (pq b267)).run Try.prog W_ = .ok ((qO 9 v263)) W_) (some 104) (fun W_ => by kernel_rfl) (fun W_ hW_ => c_loads (ys := (qP 9 v263)) aE25 (hW_.rd 0 rfl) (cel_obj b267 0) rfl (by intro j u hj; match j, hj with | 0, hj => exact hj | 1, hj => exact hj | 2, hj => exact hj | 3, hj => exact hj | 4, hj => exact hj | 5, hj => exact hj | 6, hj => exact hj | 7, hj => exact hj | n + 8, hj => cases hj)) hS362 ?_
          refine GoH.takeF 3 ((qA ha va)) (fun W_ => (Instr.loadAt 25 (pq b1)).run Try.prog W_ = .ok ((qA ha va)) W_) (some 107) (fun W_ => by kernel_rfl) (fun W_ hW_ => c_loads (ys := (qR ha va)) aE25 (hW_.rd 2 rfl) (cel_obj b1 0) rfl (by intro j u hj; match j, hj with | 0, hj => exact hj | 1, hj => exact hj | 2, hj => exact hj | 3, hj => exact hj | 4, hj => exact hj | 5, hj => exact hj | 6, hj => exact hj | 7, hj => exact hj | n + 8, hj => cases hj)) hS362 ?_
          refine GoH.callF 1 13 #[(qO 9 v263)] (some 105) (by kernel_rfl) (check_c (Q.mk (opH 9) [qa]) (opH 9) rfl v263 (RdQ.one1 (opH 9) (show Rd _ 8 v263 1 (recs qnC [⟨ha, va⟩]) from hM361.rd 1 rfl) hea (hqa.kept hM361.kept)) (by first | omega | (rw [bulk_two]; omega) | (rw [bulk_one]; omega) | (refine Nat.le_trans (bulk_put (by omega)) (by omega)) | decide +kernel)) ?_
          rintro _ w363 ⟨rfl, m364⟩
          have hM365 := Mem.join hM361 m364
          have hS366 : Mem [] w w363 [⟨25, 8, (obj b267), 1, (qP 9 v263)⟩, ⟨25, 8, v263, 1, (qR ha va)⟩, ⟨25, 8, (obj b1), 1, (qR ha va)⟩] := hM365.sub (cc (cc (cc (List.Sublist.refl _))))
          refine ⟨.int .i64 (checkQ (Q.mk (opH 9) [qa])), rfl, .inr hS366, ?_⟩
          refine GoH.takeV 2 (.bool ((checkQ (Q.mk (opH 9) [qa])) == 0)) (.bool ((checkQ (Q.mk (opH 9) [qa])) == 0)) (some 106) (fun W_ => by kernel_rfl) rfl hS366 ?_
          refine GoH.callF 4 13 #[(qA ha va)] (some 108) (by kernel_rfl) (check_c qa ha hea va (hqa.kept hM365.kept) (by first | omega | (rw [bulk_two]; omega) | (rw [bulk_one]; omega) | (refine Nat.le_trans (bulk_put (by omega)) (by omega)) | decide +kernel)) ?_
          rintro _ w367 ⟨rfl, m368⟩
          have hM369 := Mem.join hM365 m368
          have hS370 : Mem [] w w367 [⟨25, 8, (obj b267), 1, (qP 9 v263)⟩, ⟨25, 8, v263, 1, (qR ha va)⟩, ⟨25, 8, (obj b1), 1, (qR ha va)⟩] := hM369.sub (cc (cc (cc (List.Sublist.refl _))))
          refine ⟨.int .i64 (checkQ qa), rfl, .inr hS370, ?_⟩
          refine GoH.takeV 5 (.bool ((checkQ qa) == 0)) (.bool ((checkQ qa) == 0)) (some 109) (fun W_ => by kernel_rfl) rfl hS370 ?_
          refine GoH.takeV 6 (.bool ((checkQ qa) == 0)) (.bool false) (some 110) (fun W_ => by kernel_rfl) (congrArg Value.bool h43) hS370 ?_
          refine GoH.skipF 7 (some 111) (by kernel_rfl) hS370 ?_
          refine GoH.skipF 8 (some 112) (by kernel_rfl) hS370 ?_
          refine GoH.skipF 9 (some 113) (by kernel_rfl) hS370 ?_
          refine GoH.takeV 10 (.bool false) (.bool false) (some 114) (fun W_ => by kernel_rfl) rfl hS370 ?_
          refine GoH.takeV 11 (.bool false) (.bool false) (some 115) (fun W_ => by kernel_rfl) rfl hS370 ?_
          refine GoH.skipF 12 (some 116) (by kernel_rfl) hS370 ?_
          refine GoH.skipF 13 (some 117) (by kernel_rfl) hS370 ?_
          refine GoH.skipF 14 (some 118) (by kernel_rfl) hS370 ?_
          refine GoH.takeV 15 (.bool false) (.bool false) (some 119) (fun W_ => by kernel_rfl) rfl hS370 ?_
          refine GoH.takeF 16 (.bool true) (fun W_ => Try.prog.underlying 4 = some .bool ∧ W_ = W_ ∧ Value.bool true = .bool (((checkQ (Q.mk (opH 9) [qa])) == 0) == false)) (some 120) (fun W_ => by kernel_rfl) (fun W_ hW_ => ⟨by kernel_rfl, rfl, congrArg Value.bool (Eq.symm (by rw [(show (checkQ (Q.mk (opH 9) [qa]) == 0) = false by have J := check_not qa; rw [Bool.eq_iff_iff, beq_iff_eq, J]; first | (simp; done) | (simp; omega) | omega)]; simp))⟩) hS370 ?_
          refine GoH.takeV 17 (.bool true) (.bool true) (some 4) (fun W_ => by kernel_rfl) rfl hS370 ?_
          refine GoH.done [4] [(4, .bool true)] (by kernel_rfl) (by kernel_rfl) ?_
          have hM371 : Mem [] w w367 [] := hM369.sub (cn (cn (cn (List.Sublist.refl _))))
          refine GoS.ret (fn := Try.f5) (v := (.bool true)) Try.func5 (by kernel_rfl) ?_
          rw [hR]
          exact ⟨rfl, (hM371.sub (List.nil_sublist _)).below⟩


end Go.Proofs.Ytnhplkkbpmijdaa
