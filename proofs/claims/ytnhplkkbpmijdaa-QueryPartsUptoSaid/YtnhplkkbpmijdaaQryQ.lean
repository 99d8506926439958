/-
  The walk of QueryParts.
-/
import Derived.Test.YtnhplkkbpmijdaaQryM
namespace Go.Proofs.Ytnhplkkbpmijdaa
open Go Go.Gw Go.UtfP Go.TokP Go.QryP Go.RowKit
set_option linter.unusedVariables false
set_option linter.unusedSimpArgs false


set_option maxHeartbeats 4000000 in
theorem lparts_L {w0 : World} (qa : Q) (ha : Hd) (hea : ha = qa.h) (va : Value) (hqa : RdQ w0 qa va) (hba : bulkQ qa ≤ 1048576) (qb : Q) (hb : Hd) (heb : hb = qb.h) (vb : Value) (hqb : RdQ w0 qb vb) (hbb : bulkQ qb ≤ 1048576) (La : List QN) (hra : Rd w0 8 va La.length (recs qnC La)) (hla : La.length = qa.l.length) (hha : ∀ j, j < qa.l.length → (La.getD j qz).h = (qa.l.getD j q0).h) (hsa : ∀ j, j < qa.l.length → RdQ w0 (qa.l.getD j q0) (La.getD j qz).parts) (Lb : List QN) (hrb : Rd w0 8 vb Lb.length (recs qnC Lb)) (hlb : Lb.length = qb.l.length) (hhb : ∀ j, j < qb.l.length → (Lb.getD j qz).h = (qb.l.getD j q0).h) (hsb : ∀ j, j < qb.l.length → RdQ w0 (qb.l.getD j q0) (Lb.getD j qz).parts) (hc : checkQ qa = 0) (hab : bulkQ qa + bulkQ qb + 10 ≤ 1048576) (b1 b2 : Nat) (R : Ending → World → Prop) (hR : R = (fun e w' => e = .returned (.bool true) ∧ Below w0.heap.size w0 w')) : ∀ (N : Nat) (i : Nat) (w : World) (hi : i ≤ La.length) (hM : Mem [] w0 w [⟨25, 8, (obj b1), 1, (qR ha va)⟩, ⟨25, 8, (obj b2), 1, (qR hb vb)⟩]) (hN : La.length - i < N), GoS Try.prog 6 R 92 [.code (csub (cd Try.f6) [1,1,1,0,1,0,0]), .inLoop (csub (cd Try.f6) [1,1,1,0,1,0,0]), .inBlock 0, .code (csub (cd Try.f6) [1,1,1,1])] [(2, pq b1), (3, pq b2), (5, .int .i64 ((i : Nat) : Int))] w := by
  intro N
  induction N with
  | zero => intro i w hi hM hN; exact absurd hN (Nat.not_lt_zero _)
  | succ N ih =>
    intro i w hi hM hN
    have hbla : bulkL qa.l + qa.h.field.length + qa.h.text.length + 1 = bulkQ qa := by cases qa; rw [bulkQ_mk]; rfl
    have hlna := bulk_len qa.l
    have hblb : bulkL qb.l + qb.h.field.length + qb.h.text.length + 1 = bulkQ qb := by cases qb; rw [bulkQ_mk]; rfl
    have hlnb := bulk_len qb.l
    have hzb := size_le qb
    have o1 : (Instr.loadAt 23 (.pointer (some (⟨b1, 7, none⟩)))).run Try.prog w = .ok (va) w := c_load pE23 (hM.rd 0 rfl) (cel_obj b1 7) rfl
    have o2 : (Builtin.len_ #[23] 3 #[va]).run Try.prog w = .ok (.int .i64 (((List.length La) : Nat) : Int)) w := f_slen sT23 (hra.kept0 hM.kept) 3 _
    refine GoS.run [2, 3, 5, 32] [.n, .n, .n, .n, .n, .h (va), .h (.int .i64 (((List.length La) : Nat) : Int)), .n, .n] _ [.code (csub (cd Try.f6) [1,1,1,0,1,0,0,0,1]), .code (csub (cd Try.f6) [1,1,1,0,1,0,0,1]), .inLoop (csub (cd Try.f6) [1,1,1,0,1,0,0]), .inBlock 0, .code (csub (cd Try.f6) [1,1,1,1])] [(2, pq b1), (3, pq b2), (5, .int .i64 ((i : Nat) : Int)), (32, .bool (decide (((i : Nat) : Int) < (((List.length La) : Nat) : Int))))] w (by kernel_rfl) (.cons o1 (.cons o2 .nil)) ?_
    refine GoS.cond (decide (((i : Nat) : Int) < (((List.length La) : Nat) : Int))) [.code (csub (cd Try.f6) [1,1,1,0,1,0,0,0,1,0]), .code (csub (cd Try.f6) [1,1,1,0,1,0,0,1]), .inLoop (csub (cd Try.f6) [1,1,1,0,1,0,0]), .inBlock 0, .code (csub (cd Try.f6) [1,1,1,1])] [.code (csub (cd Try.f6) [1,1,1,0,1,0,0,0,1,1]), .code (csub (cd Try.f6) [1,1,1,0,1,0,0,1]), .inLoop (csub (cd Try.f6) [1,1,1,0,1,0,0]), .inBlock 0, .code (csub (cd Try.f6) [1,1,1,1])] (by kernel_rfl) (fun h3 => ?_) (fun h3 => ?_)
    ·
      have h3p : ((i : Nat) : Int) < (((List.length La) : Nat) : Int) := of_decide_eq_true h3
      refine GoS.run [2, 3, 5] [.n] _ [.code (csub (cd Try.f6) [1,1,1,0,1,0,0,1]), .inLoop (csub (cd Try.f6) [1,1,1,0,1,0,0]), .inBlock 0, .code (csub (cd Try.f6) [1,1,1,1])] [(2, pq b1), (3, pq b2), (5, .int .i64 ((i : Nat) : Int))] w (by kernel_rfl) .nil ?_
      have o8 : (Instr.loadAt 23 (.pointer (some (⟨b1, 7, none⟩)))).run Try.prog w = .ok (va) w := c_load pE23 (hM.rd 0 rfl) (cel_obj b1 7) rfl
      obtain ⟨p5, hp6, hq7⟩ := rd_at (i := ((i : Nat) : Int)) sT23 (hra.kept0 hM.kept) i (by omega) (by first | omega | (dsimp only; omega))
      have o9 : (Instr.indexAt 23 (va) (.int .i64 ((i : Nat) : Int))).run Try.prog w = .ok (.pointer (some p5)) w := hq7 _ _
      have o10 : (Instr.loadAt 25 (.pointer (some p5))).run Try.prog w = .ok ((qA ((List.getD La i qz).h) ((List.getD La i qz).parts))) w := r_loads (f := qnC) (l := La) aE25 (hra.kept0 hM.kept) qnC_len hp6 (by first | omega | (dsimp only; omega)) qz
      refine GoS.run [2, 3, 5, 39] [.n, .n, .n, .n, .n, .n, .h (va), .n, .h (.pointer (some p5)), .h ((qA ((List.getD La i qz).h) ((List.getD La i qz).parts)))] _ [.inRegion (cops (csub (cd Try.f6) [1,1,1,0,1,0,0,1,0,0,0,0])) [5,6], .code (csub (cd Try.f6) [1,1,1,0,1,0,0,1,0,0,0,1]), .code (csub (cd Try.f6) [1,1,1,0,1,0,0,1,0,0,1]), .inBlock 1, .code (csub (cd Try.f6) [1,1,1,0,1,0,0,1,1]), .inLoop (csub (cd Try.f6) [1,1,1,0,1,0,0]), .inBlock 0, .code (csub (cd Try.f6) [1,1,1,1])] [(2, pq b1), (3, pq b2), (5, .int .i64 ((i : Nat) : Int)), (39, (qA ((List.getD La i qz).h) ((List.getD La i qz).parts)))] w (by kernel_rfl) (.cons o8 (.cons o9 (.cons o10 .nil))) ?_
      have hkb14 := bulk_kid (l := qa.l) (i := i) (by omega)
      have hks15 := size_le (List.getD qa.l i q0)
      have hbs16 := bulk_step (l := qa.l) (i := i) (by omega)
      refine GoS.call [2, 3, 5] 13 #[(qA ((List.getD La i qz).h) ((List.getD La i qz).parts))] (some 40) [.inRegion (cops (csub (cd Try.f6) [1,1,1,0,1,0,0,1,0,0,0,0])) [6], .code (csub (cd Try.f6) [1,1,1,0,1,0,0,1,0,0,0,1]), .code (csub (cd Try.f6) [1,1,1,0,1,0,0,1,0,0,1]), .inBlock 1, .code (csub (cd Try.f6) [1,1,1,0,1,0,0,1,1]), .inLoop (csub (cd Try.f6) [1,1,1,0,1,0,0]), .inBlock 0, .code (csub (cd Try.f6) [1,1,1,1])] [(2, pq b1), (3, pq b2), (5, .int .i64 ((i : Nat) : Int))] (by kernel_rfl) (check_c (List.getD qa.l i q0) ((List.getD La i qz).h) (hha i (by omega)) ((List.getD La i qz).parts) ((hsa i (by omega)).kept hM.kept) (by first | omega | (rw [bulk_two]; omega) | (rw [bulk_one]; omega) | (refine Nat.le_trans (bulk_put (by omega)) (by omega)) | decide +kernel)) ?_
      rintro _ w11 ⟨rfl, m12⟩
      refine ⟨_, rfl, ?_⟩
      have hM13 := Mem.join hM m12
      have o20 : (IntKind.i64 = IntKind.i64) ∧ w11 = w11 ∧ Value.bool false = .bool ((checkQ (List.getD qa.l i q0)) != 0) := ⟨rfl, rfl, congrArg Value.bool (Eq.symm (bne_eq_false_iff_eq.2 (check_kid hc (by omega))))⟩
      have o21 : (Instr.loadAt 23 (.pointer (some (⟨b1, 7, none⟩)))).run Try.prog w11 = .ok (va) w11 := c_load pE23 (hM13.rd 0 rfl) (cel_obj b1 7) rfl
      obtain ⟨p17, hp18, hq19⟩ := rd_at (i := ((i : Nat) : Int)) sT23 (hra.kept0 hM13.kept) i (by omega) (by first | omega | (dsimp only; omega))
      have o22 : (Instr.indexAt 23 (va) (.int .i64 ((i : Nat) : Int))).run Try.prog w11 = .ok (.pointer (some p17)) w11 := hq19 _ _
      have o23 : (Instr.loadAt 25 (.pointer (some p17))).run Try.prog w11 = .ok ((qA ((List.getD La i qz).h) ((List.getD La i qz).parts))) w11 := r_loads (f := qnC) (l := La) aE25 (hra.kept0 hM13.kept) qnC_len hp18 (by first | omega | (dsimp only; omega)) qz
      refine GoS.run [2, 3, 5, 47] [.h (.bool false), .n, .n, .n, .n, .n, .n, .h (va), .n, .h (.pointer (some p17)), .h ((qA ((List.getD La i qz).h) ((List.getD La i qz).parts)))] _ [.inRegion (cops (csub (cd Try.f6) [1,1,1,0,1,0,0,1,0,0,1,0])) [5,6,7,8,9,10], .code (csub (cd Try.f6) [1,1,1,0,1,0,0,1,0,0,1,1]), .inBlock 1, .code (csub (cd Try.f6) [1,1,1,0,1,0,0,1,1]), .inLoop (csub (cd Try.f6) [1,1,1,0,1,0,0]), .inBlock 0, .code (csub (cd Try.f6) [1,1,1,1])] [(2, pq b1), (3, pq b2), (5, .int .i64 ((i : Nat) : Int)), (47, (qA ((List.getD La i qz).h) ((List.getD La i qz).parts)))] w11 (by kernel_rfl) (.cons o20 (.cons o21 (.cons o22 (.cons o23 .nil)))) ?_
      have hkb27 := bulk_kid (l := qa.l) (i := i) (by omega)
      have hks28 := size_le (List.getD qa.l i q0)
      have hbs29 := bulk_step (l := qa.l) (i := i) (by omega)
      refine GoS.call [2, 3, 5] 10 #[(qA ((List.getD La i qz).h) ((List.getD La i qz).parts))] (some 48) [.inRegion (cops (csub (cd Try.f6) [1,1,1,0,1,0,0,1,0,0,1,0])) [6,7,8,9,10], .code (csub (cd Try.f6) [1,1,1,0,1,0,0,1,0,0,1,1]), .inBlock 1, .code (csub (cd Try.f6) [1,1,1,0,1,0,0,1,1]), .inLoop (csub (cd Try.f6) [1,1,1,0,1,0,0]), .inBlock 0, .code (csub (cd Try.f6) [1,1,1,1])] [(2, pq b1), (3, pq b2), (5, .int .i64 ((i : Nat) : Int))] (by kernel_rfl) (size_c (List.getD qa.l i q0) ((List.getD La i qz).h) (hha i (by omega)) ((List.getD La i qz).parts) ((hsa i (by omega)).kept hM13.kept) (by first | omega | (rw [bulk_two]; omega) | (rw [bulk_one]; omega) | (refine Nat.le_trans (bulk_put (by omega)) (by omega)) | decide +kernel)) ?_
      rintro _ w24 ⟨rfl, m25⟩
      refine ⟨_, rfl, ?_⟩
      have hM26 := Mem.join hM13 m25
      have o30 : (Instr.loadAt 25 (pq b2)).run Try.prog w24 = .ok ((qA hb vb)) w24 := c_loads (ys := (qR hb vb)) aE25 (hM26.rd 1 rfl) (cel_obj b2 0) rfl (by intro j u hj; match j, hj with | 0, hj => exact hj | 1, hj => exact hj | 2, hj => exact hj | 3, hj => exact hj | 4, hj => exact hj | 5, hj => exact hj | 6, hj => exact hj | 7, hj => exact hj | n + 8, hj => cases hj)
      refine GoS.run [2, 3, 5, 6, 7, 52] [.n, .n, .n, .n, .n, .n, .n, .n, .h ((qA hb vb))] _ [.inRegion (cops (csub (cd Try.f6) [1,1,1,0,1,0,0,1,0,0,1,1,0])) [1,2,3,4,5,6], .code (csub (cd Try.f6) [1,1,1,0,1,0,0,1,0,0,1,1,1]), .inBlock 1, .code (csub (cd Try.f6) [1,1,1,0,1,0,0,1,1]), .inLoop (csub (cd Try.f6) [1,1,1,0,1,0,0]), .inBlock 0, .code (csub (cd Try.f6) [1,1,1,1])] [(2, pq b1), (3, pq b2), (5, .int .i64 ((i : Nat) : Int)), (6, .int .i64 (((sizeQ (List.getD qa.l i q0)) : Nat) : Int)), (7, .int .i64 (((deepQ (List.getD qa.l i q0)) : Nat) : Int)), (52, (qA hb vb))] w24 (by kernel_rfl) (.cons o30 .nil) ?_
      refine GoS.call [2, 3, 5, 6, 7] 10 #[(qA hb vb)] (some 53) [.inRegion (cops (csub (cd Try.f6) [1,1,1,0,1,0,0,1,0,0,1,1,0])) [2,3,4,5,6], .code (csub (cd Try.f6) [1,1,1,0,1,0,0,1,0,0,1,1,1]), .inBlock 1, .code (csub (cd Try.f6) [1,1,1,0,1,0,0,1,1]), .inLoop (csub (cd Try.f6) [1,1,1,0,1,0,0]), .inBlock 0, .code (csub (cd Try.f6) [1,1,1,1])] [(2, pq b1), (3, pq b2), (5, .int .i64 ((i : Nat) : Int)), (6, .int .i64 (((sizeQ (List.getD qa.l i q0)) : Nat) : Int)), (7, .int .i64 (((deepQ (List.getD qa.l i q0)) : Nat) : Int))] (by kernel_rfl) (size_c qb hb heb vb (hqb.kept hM26.kept) (by first | omega | (rw [bulk_two]; omega) | (rw [bulk_one]; omega) | (refine Nat.le_trans (bulk_put (by omega)) (by omega)) | decide +kernel)) ?_
      rintro _ w31 ⟨rfl, m32⟩
      refine ⟨_, rfl, ?_⟩
      have hM33 := Mem.join hM26 m32
      have o34 : (Instr.loadAt 25 (pq b2)).run Try.prog w31 = .ok ((qA hb vb)) w31 := c_loads (ys := (qR hb vb)) aE25 (hM33.rd 1 rfl) (cel_obj b2 0) rfl (by intro j u hj; match j, hj with | 0, hj => exact hj | 1, hj => exact hj | 2, hj => exact hj | 3, hj => exact hj | 4, hj => exact hj | 5, hj => exact hj | 6, hj => exact hj | 7, hj => exact hj | n + 8, hj => cases hj)
      refine GoS.run [2, 3, 5, 6, 7, 8, 9, 56] [.n, .n, .n, .n, .n, .n, .n, .n, .n, .h ((qA hb vb))] _ [.inRegion (cops (csub (cd Try.f6) [1,1,1,0,1,0,0,1,0,0,1,1,1,0,0])) [1,2,3,4,5,6,7,8,9,10,11,12], .code (csub (cd Try.f6) [1,1,1,0,1,0,0,1,0,0,1,1,1,0,1]), .code (csub (cd Try.f6) [1,1,1,0,1,0,0,1,0,0,1,1,1,1]), .inBlock 1, .code (csub (cd Try.f6) [1,1,1,0,1,0,0,1,1]), .inLoop (csub (cd Try.f6) [1,1,1,0,1,0,0]), .inBlock 0, .code (csub (cd Try.f6) [1,1,1,1])] [(2, pq b1), (3, pq b2), (5, .int .i64 ((i : Nat) : Int)), (6, .int .i64 (((sizeQ (List.getD qa.l i q0)) : Nat) : Int)), (7, .int .i64 (((deepQ (List.getD qa.l i q0)) : Nat) : Int)), (8, .int .i64 (((sizeQ qb) : Nat) : Int)), (9, .int .i64 (((deepQ qb) : Nat) : Int)), (56, (qA hb vb))] w31 (by kernel_rfl) (.cons o34 .nil) ?_
      refine GoS.call [2, 3, 5, 6, 7, 8, 9] 13 #[(qA hb vb)] (some 57) [.inRegion (cops (csub (cd Try.f6) [1,1,1,0,1,0,0,1,0,0,1,1,1,0,0])) [2,3,4,5,6,7,8,9,10,11,12], .code (csub (cd Try.f6) [1,1,1,0,1,0,0,1,0,0,1,1,1,0,1]), .code (csub (cd Try.f6) [1,1,1,0,1,0,0,1,0,0,1,1,1,1]), .inBlock 1, .code (csub (cd Try.f6) [1,1,1,0,1,0,0,1,1]), .inLoop (csub (cd Try.f6) [1,1,1,0,1,0,0]), .inBlock 0, .code (csub (cd Try.f6) [1,1,1,1])] [(2, pq b1), (3, pq b2), (5, .int .i64 ((i : Nat) : Int)), (6, .int .i64 (((sizeQ (List.getD qa.l i q0)) : Nat) : Int)), (7, .int .i64 (((deepQ (List.getD qa.l i q0)) : Nat) : Int)), (8, .int .i64 (((sizeQ qb) : Nat) : Int)), (9, .int .i64 (((deepQ qb) : Nat) : Int))] (by kernel_rfl) (check_c qb hb heb vb (hqb.kept hM33.kept) (by first | omega | (rw [bulk_two]; omega) | (rw [bulk_one]; omega) | (refine Nat.le_trans (bulk_put (by omega)) (by omega)) | decide +kernel)) ?_
      rintro _ w35 ⟨rfl, m36⟩
      refine ⟨_, rfl, ?_⟩
      have hM37 := Mem.join hM33 m36
      refine GoS.run [2, 3, 5, 6, 7, 8, 9, 59] [.n, .n] _ [.inRegion (cops (csub (cd Try.f6) [1,1,1,0,1,0,0,1,0,0,1,1,1,0,0])) [4,5,6,7,8,9,10,11,12], .code (csub (cd Try.f6) [1,1,1,0,1,0,0,1,0,0,1,1,1,0,1]), .code (csub (cd Try.f6) [1,1,1,0,1,0,0,1,0,0,1,1,1,1]), .inBlock 1, .code (csub (cd Try.f6) [1,1,1,0,1,0,0,1,1]), .inLoop (csub (cd Try.f6) [1,1,1,0,1,0,0]), .inBlock 0, .code (csub (cd Try.f6) [1,1,1,1])] [(2, pq b1), (3, pq b2), (5, .int .i64 ((i : Nat) : Int)), (6, .int .i64 (((sizeQ (List.getD qa.l i q0)) : Nat) : Int)), (7, .int .i64 (((deepQ (List.getD qa.l i q0)) : Nat) : Int)), (8, .int .i64 (((sizeQ qb) : Nat) : Int)), (9, .int .i64 (((deepQ qb) : Nat) : Int)), (59, .bool ((checkQ qb) != 0))] w35 (by kernel_rfl) .nil ?_
      refine GoS.fork 59 ((checkQ qb) != 0) (by kernel_rfl) (fun h38 => ?_) (fun h38 => ?_)
      ·
        have h38p : ¬ ((checkQ qb) = 0) := bne_iff_ne.1 h38
        refine GoS.run [2, 3, 5, 68] [.n, .n, .n, .n, .n, .n, .n, .n, .n] _ [.inRegion (cops (csub (cd Try.f6) [1,1,1,0,1,0,0,1,0,0,1,1,1,0,0])) [], .code (csub (cd Try.f6) [1,1,1,0,1,0,0,1,0,0,1,1,1,0,1]), .code (csub (cd Try.f6) [1,1,1,0,1,0,0,1,0,0,1,1,1,1]), .inBlock 1, .code (csub (cd Try.f6) [1,1,1,0,1,0,0,1,1]), .inLoop (csub (cd Try.f6) [1,1,1,0,1,0,0]), .inBlock 0, .code (csub (cd Try.f6) [1,1,1,1])] [(2, pq b1), (3, pq b2), (5, .int .i64 ((i : Nat) : Int)), (68, .bool true)] w35 (by kernel_rfl) .nil ?_
        have o40 : (binOp .add 3 (.int .i64 ((i : Nat) : Int)) (.int .i64 1)).run Try.prog w35 = .ok (.int .i64 (((i + 1) : Nat) : Int)) w35 := f_add (by rw [show ((i : Nat) : Int) + 1 = (((i + 1) : Nat) : Int) by omega]; exact IntWalk.i64_in _ (by omega))
        refine GoS.run [2, 3, 5] [.n, .n, .n, .n, .n, .h (.int .i64 (((i + 1) : Nat) : Int)), .n, .n, .n] _ [.code (csub (cd Try.f6) [1,1,1,0,1,0,0]), .inLoop (csub (cd Try.f6) [1,1,1,0,1,0,0]), .inBlock 0, .code (csub (cd Try.f6) [1,1,1,1])] [(2, pq b1), (3, pq b2), (5, .int .i64 (((i + 1) : Nat) : Int))] w35 (by kernel_rfl) (.cons o40 .nil) ?_
        exact ih (i + 1) _ (by omega) (hM37.sub (cc (cc (List.nil_sublist _)))) (by omega)
      ·
        have h38p : (checkQ qb) = 0 := p_eq h38
        refine GoS.run [2, 3, 5, 7, 9, 64] [.n, .n, .n, .n, .n] _ [.inRegion (cops (csub (cd Try.f6) [1,1,1,0,1,0,0,1,0,0,1,1,1,0,0])) [9,10,11,12], .code (csub (cd Try.f6) [1,1,1,0,1,0,0,1,0,0,1,1,1,0,1]), .code (csub (cd Try.f6) [1,1,1,0,1,0,0,1,0,0,1,1,1,1]), .inBlock 1, .code (csub (cd Try.f6) [1,1,1,0,1,0,0,1,1]), .inLoop (csub (cd Try.f6) [1,1,1,0,1,0,0]), .inBlock 0, .code (csub (cd Try.f6) [1,1,1,1])] [(2, pq b1), (3, pq b2), (5, .int .i64 ((i : Nat) : Int)), (7, .int .i64 (((deepQ (List.getD qa.l i q0)) : Nat) : Int)), (9, .int .i64 (((deepQ qb) : Nat) : Int)), (64, .bool (decide ((((sizeQ qb) : Nat) : Int) > (((sizeQ (List.getD qa.l i q0)) : Nat) : Int))))] w35 (by kernel_rfl) .nil ?_
        refine GoS.fork 64 (decide ((((sizeQ qb) : Nat) : Int) > (((sizeQ (List.getD qa.l i q0)) : Nat) : Int))) (by kernel_rfl) (fun h39 => ?_) (fun h39 => ?_)
        ·
          have h39p : (((sizeQ qb) : Nat) : Int) > (((sizeQ (List.getD qa.l i q0)) : Nat) : Int) := of_decide_eq_true h39
          refine GoS.run [2, 3, 5, 68] [.n, .n, .n, .n] _ [.inRegion (cops (csub (cd Try.f6) [1,1,1,0,1,0,0,1,0,0,1,1,1,0,0])) [], .code (csub (cd Try.f6) [1,1,1,0,1,0,0,1,0,0,1,1,1,0,1]), .code (csub (cd Try.f6) [1,1,1,0,1,0,0,1,0,0,1,1,1,1]), .inBlock 1, .code (csub (cd Try.f6) [1,1,1,0,1,0,0,1,1]), .inLoop (csub (cd Try.f6) [1,1,1,0,1,0,0]), .inBlock 0, .code (csub (cd Try.f6) [1,1,1,1])] [(2, pq b1), (3, pq b2), (5, .int .i64 ((i : Nat) : Int)), (68, .bool true)] w35 (by kernel_rfl) .nil ?_
          have o41 : (binOp .add 3 (.int .i64 ((i : Nat) : Int)) (.int .i64 1)).run Try.prog w35 = .ok (.int .i64 (((i + 1) : Nat) : Int)) w35 := f_add (by rw [show ((i : Nat) : Int) + 1 = (((i + 1) : Nat) : Int) by omega]; exact IntWalk.i64_in _ (by omega))
          refine GoS.run [2, 3, 5] [.n, .n, .n, .n, .n, .h (.int .i64 (((i + 1) : Nat) : Int)), .n, .n, .n] _ [.code (csub (cd Try.f6) [1,1,1,0,1,0,0]), .inLoop (csub (cd Try.f6) [1,1,1,0,1,0,0]), .inBlock 0, .code (csub (cd Try.f6) [1,1,1,1])] [(2, pq b1), (3, pq b2), (5, .int .i64 (((i + 1) : Nat) : Int))] w35 (by kernel_rfl) (.cons o41 .nil) ?_
          exact ih (i + 1) _ (by omega) (hM37.sub (cc (cc (List.nil_sublist _)))) (by omega)
        ·
          have h39p : ¬ ((((sizeQ qb) : Nat) : Int) > (((sizeQ (List.getD qa.l i q0)) : Nat) : Int)) := of_decide_eq_false h39
          refine GoS.run [2, 3, 5, 68] [.n, .n, .n, .n] _ [.inRegion (cops (csub (cd Try.f6) [1,1,1,0,1,0,0,1,0,0,1,1,1,0,0])) [], .code (csub (cd Try.f6) [1,1,1,0,1,0,0,1,0,0,1,1,1,0,1]), .code (csub (cd Try.f6) [1,1,1,0,1,0,0,1,0,0,1,1,1,1]), .inBlock 1, .code (csub (cd Try.f6) [1,1,1,0,1,0,0,1,1]), .inLoop (csub (cd Try.f6) [1,1,1,0,1,0,0]), .inBlock 0, .code (csub (cd Try.f6) [1,1,1,1])] [(2, pq b1), (3, pq b2), (5, .int .i64 ((i : Nat) : Int)), (68, .bool (decide ((((deepQ qb) : Nat) : Int) > (((deepQ (List.getD qa.l i q0)) : Nat) : Int))))] w35 (by kernel_rfl) .nil ?_
          refine GoS.run [2, 3, 5, 68] [.n] _ [.code (csub (cd Try.f6) [1,1,1,0,1,0,0,1,0,0,1,1,1,0,1]), .code (csub (cd Try.f6) [1,1,1,0,1,0,0,1,0,0,1,1,1,1]), .inBlock 1, .code (csub (cd Try.f6) [1,1,1,0,1,0,0,1,1]), .inLoop (csub (cd Try.f6) [1,1,1,0,1,0,0]), .inBlock 0, .code (csub (cd Try.f6) [1,1,1,1])] [(2, pq b1), (3, pq b2), (5, .int .i64 ((i : Nat) : Int)), (68, .bool (decide ((((deepQ qb) : Nat) : Int) > (((deepQ (List.getD qa.l i q0)) : Nat) : Int))))] w35 (by kernel_rfl) .nil ?_
          refine GoS.cond (decide ((((deepQ qb) : Nat) : Int) > (((deepQ (List.getD qa.l i q0)) : Nat) : Int))) [.code (csub (cd Try.f6) [1,1,1,0,1,0,0,1,0,0,1,1,1,0,1,0]), .code (csub (cd Try.f6) [1,1,1,0,1,0,0,1,0,0,1,1,1,1]), .inBlock 1, .code (csub (cd Try.f6) [1,1,1,0,1,0,0,1,1]), .inLoop (csub (cd Try.f6) [1,1,1,0,1,0,0]), .inBlock 0, .code (csub (cd Try.f6) [1,1,1,1])] [.code (csub (cd Try.f6) [1,1,1,0,1,0,0,1,0,0,1,1,1,0,1,1]), .code (csub (cd Try.f6) [1,1,1,0,1,0,0,1,0,0,1,1,1,1]), .inBlock 1, .code (csub (cd Try.f6) [1,1,1,0,1,0,0,1,1]), .inLoop (csub (cd Try.f6) [1,1,1,0,1,0,0]), .inBlock 0, .code (csub (cd Try.f6) [1,1,1,1])] (by kernel_rfl) (fun h42 => ?_) (fun h42 => ?_)
          ·
            have h42p : (((deepQ qb) : Nat) : Int) > (((deepQ (List.getD qa.l i q0)) : Nat) : Int) := of_decide_eq_true h42
            have o43 : (binOp .add 3 (.int .i64 ((i : Nat) : Int)) (.int .i64 1)).run Try.prog w35 = .ok (.int .i64 (((i + 1) : Nat) : Int)) w35 := f_add (by rw [show ((i : Nat) : Int) + 1 = (((i + 1) : Nat) : Int) by omega]; exact IntWalk.i64_in _ (by omega))
            refine GoS.run [2, 3, 5] [.n, .n, .n, .h (.int .i64 (((i + 1) : Nat) : Int)), .n, .n, .n] _ [.code (csub (cd Try.f6) [1,1,1,0,1,0,0]), .inLoop (csub (cd Try.f6) [1,1,1,0,1,0,0]), .inBlock 0, .code (csub (cd Try.f6) [1,1,1,1])] [(2, pq b1), (3, pq b2), (5, .int .i64 (((i + 1) : Nat) : Int))] w35 (by kernel_rfl) (.cons o43 .nil) ?_
            exact ih (i + 1) _ (by omega) (hM37.sub (cc (cc (List.nil_sublist _)))) (by omega)
          ·
            have h42p : ¬ ((((deepQ qb) : Nat) : Int) > (((deepQ (List.getD qa.l i q0)) : Nat) : Int)) := of_decide_eq_false h42
            refine GoS.run [2, 3, 5] [.n] _ [.code (csub (cd Try.f6) [1,1,1,0,1,0,0,1,0,0,1,1,1,1]), .inBlock 1, .code (csub (cd Try.f6) [1,1,1,0,1,0,0,1,1]), .inLoop (csub (cd Try.f6) [1,1,1,0,1,0,0]), .inBlock 0, .code (csub (cd Try.f6) [1,1,1,1])] [(2, pq b1), (3, pq b2), (5, .int .i64 ((i : Nat) : Int))] w35 (by kernel_rfl) .nil ?_
            have o44 : (Instr.loadAt 25 (pq b1)).run Try.prog w35 = .ok ((qA ha va)) w35 := c_loads (ys := (qR ha va)) aE25 (hM37.rd 0 rfl) (cel_obj b1 0) rfl (by intro j u hj; match j, hj with | 0, hj => exact hj | 1, hj => exact hj | 2, hj => exact hj | 3, hj => exact hj | 4, hj => exact hj | 5, hj => exact hj | 6, hj => exact hj | 7, hj => exact hj | n + 8, hj => cases hj)
            refine GoS.run [2, 3, 5, 69] [.n, .n, .h ((qA ha va))] _ [.inRegion (cops (csub (cd Try.f6) [1,1,1,0,1,0,0,1,0,0,1,1,1,1,0])) [1,2,3], .code (csub (cd Try.f6) [1,1,1,0,1,0,0,1,0,0,1,1,1,1,1]), .inBlock 1, .code (csub (cd Try.f6) [1,1,1,0,1,0,0,1,1]), .inLoop (csub (cd Try.f6) [1,1,1,0,1,0,0]), .inBlock 0, .code (csub (cd Try.f6) [1,1,1,1])] [(2, pq b1), (3, pq b2), (5, .int .i64 ((i : Nat) : Int)), (69, (qA ha va))] w35 (by kernel_rfl) (.cons o44 .nil) ?_
            refine GoS.call [2, 3, 5] 9 #[(qA ha va)] (some 70) [.inRegion (cops (csub (cd Try.f6) [1,1,1,0,1,0,0,1,0,0,1,1,1,1,0])) [2,3], .code (csub (cd Try.f6) [1,1,1,0,1,0,0,1,0,0,1,1,1,1,1]), .inBlock 1, .code (csub (cd Try.f6) [1,1,1,0,1,0,0,1,1]), .inLoop (csub (cd Try.f6) [1,1,1,0,1,0,0]), .inBlock 0, .code (csub (cd Try.f6) [1,1,1,1])] [(2, pq b1), (3, pq b2), (5, .int .i64 ((i : Nat) : Int))] (by kernel_rfl) (copy_c qa ha hea va (hqa.kept hM37.kept) (by first | omega | (rw [bulk_two]; omega) | (rw [bulk_one]; omega) | (refine Nat.le_trans (bulk_put (by omega)) (by omega)) | decide +kernel)) ?_
            rintro _ w45 ⟨u46, M47, T48, rfl, h51, h52, h53, m50⟩
            refine ⟨_, rfl, ?_⟩
            have hM56 : Mem [] w0 w45 (⟨25, 8, u46, (List.length M47), (recs qnC M47)⟩ :: ⟨25, 8, (obj b1), 1, (qR ha va)⟩ :: ⟨25, 8, (obj b2), 1, (qR hb vb)⟩ :: T48) := Mem.joinTop (A := [⟨25, 8, (obj b1), 1, (qR ha va)⟩, ⟨25, 8, (obj b2), 1, (qR hb vb)⟩]) hM37 m50
            obtain ⟨b57, w58, hr59, hM60⟩ := m_alloc oT25 hM56
            have hM61 : Mem [] w0 w58 (⟨25, 8, (obj b57), 1, (qP 0 (.slice none 0 0))⟩ :: ⟨25, 8, u46, (List.length M47), (recs qnC M47)⟩ :: ⟨25, 8, (obj b1), 1, (qR ha va)⟩ :: ⟨25, 8, (obj b2), 1, (qR hb vb)⟩ :: T48) := hM60
            have o73 : (Instr.alloc 25 true (.tuple #[])).run Try.prog w45 = .ok (pq b57) w58 := hr59
            obtain ⟨w62, hr63, hM64⟩ := c_stores (ys := (qR ha u46)) aE25 hM61 0 rfl (cel_obj b57 0) rfl (by decide) (by intro u hu; simp at hu; rcases hu with rfl | rfl | rfl | rfl | rfl | rfl | rfl | rfl <;> first | rfl | exact (rd_one (hM61.rd 1 rfl)))
            have hM65 : Mem [] w0 w62 (⟨25, 8, (obj b57), 1, (qR ha u46)⟩ :: ⟨25, 8, u46, (List.length M47), (recs qnC M47)⟩ :: ⟨25, 8, (obj b1), 1, (qR ha va)⟩ :: ⟨25, 8, (obj b2), 1, (qR hb vb)⟩ :: T48) := hM64
            have o74 : (Instr.storeAt 25 (pq b57) ((qA ha u46))).run Try.prog w58 = .ok () w62 ∧ undef = undef := ⟨hr63, rfl⟩
            have o75 : (Instr.loadAt 23 (.pointer (some (⟨b57, 7, none⟩)))).run Try.prog w62 = .ok (u46) w62 := c_load pE23 (hM65.rd 0 rfl) (cel_obj b57 7) rfl
            have o76 : (Instr.loadAt 25 (pq b2)).run Try.prog w62 = .ok ((qA hb vb)) w62 := c_loads (ys := (qR hb vb)) aE25 (hM65.rd 3 rfl) (cel_obj b2 0) rfl (by intro j u hj; match j, hj with | 0, hj => exact hj | 1, hj => exact hj | 2, hj => exact hj | 3, hj => exact hj | 4, hj => exact hj | 5, hj => exact hj | 6, hj => exact hj | 7, hj => exact hj | n + 8, hj => cases hj)
            obtain ⟨p66, hp67, hq68⟩ := rd_at (i := ((i : Nat) : Int)) sT23 (hM65.rd 1 rfl) i (by omega) (by first | omega | (dsimp only; omega))
            have o77 : (Instr.indexAt 23 (u46) (.int .i64 ((i : Nat) : Int))).run Try.prog w62 = .ok (.pointer (some p66)) w62 := hq68 _ _
            obtain ⟨w69, hr70, hM71⟩ := r_stores (f := qnC) (l := M47) aE25 hM65 1 rfl qnC_len hp67 (by first | omega | (dsimp only; omega)) (qn (hb.op) (hb.field) (hb.text) (hb.edits) (hb.exact) (hb.lo) (hb.hi) vb) (qnC_one (hqb.kept hM65.kept).one.1)
            have hM72 : Mem [] w0 w69 (⟨25, 8, (obj b57), 1, (qR ha u46)⟩ :: ⟨25, 8, u46, (List.length M47), (recs qnC (List.set M47 i (qn (hb.op) (hb.field) (hb.text) (hb.edits) (hb.exact) (hb.lo) (hb.hi) vb)))⟩ :: ⟨25, 8, (obj b1), 1, (qR ha va)⟩ :: ⟨25, 8, (obj b2), 1, (qR hb vb)⟩ :: T48) := hM71.cast (by simp)
            have o78 : (Instr.storeAt 25 (.pointer (some p66)) ((qA hb vb))).run Try.prog w62 = .ok () w69 ∧ undef = undef := ⟨hr70, rfl⟩
            refine GoS.run [2, 3, 5, 10] [.u (pq b57) (w58), .u (undef) (w62), .n, .n, .n, .n, .h (u46), .n, .h ((qA hb vb)), .h (.pointer (some p66)), .u (undef) (w69), .n, .n] _ [.code (csub (cd Try.f6) [1,1,1,0,1,0,0,1,0,0,1,1,1,1,1,1,0]), .code (csub (cd Try.f6) [1,1,1,0,1,0,0,1,0,0,1,1,1,1,1,1,1]), .inBlock 1, .code (csub (cd Try.f6) [1,1,1,0,1,0,0,1,1]), .inLoop (csub (cd Try.f6) [1,1,1,0,1,0,0]), .inBlock 0, .code (csub (cd Try.f6) [1,1,1,1])] [(2, pq b1), (3, pq b2), (5, .int .i64 ((i : Nat) : Int)), (10, pq b57)] w69 (by kernel_rfl) (.cons o73 (.cons o74 (.cons o75 (.cons o76 (.cons o77 (.cons o78 .nil)))))) ?_
            obtain ⟨w79, hw80⟩ : ∃ w_, (w69).drewN 1 = w_ := ⟨_, rfl⟩
            refine GoS.held (fun W_ => Mem [] w0 W_ (⟨25, 8, (obj b57), 1, (qR ha u46)⟩ :: ⟨25, 8, u46, (List.length M47), (recs qnC (List.set M47 i (qn (hb.op) (hb.field) (hb.text) (hb.edits) (hb.exact) (hb.lo) (hb.hi) vb)))⟩ :: ⟨25, 8, (obj b1), 1, (qR ha va)⟩ :: ⟨25, 8, (obj b2), 1, (qR hb vb)⟩ :: T48)) [] 15 (by kernel_rfl) (by kernel_rfl) 16 (by kernel_rfl) ?_
            rw [hw80]
            have hM81 : Mem [] w0 w79 (⟨25, 8, (obj b57), 1, (qR ha u46)⟩ :: ⟨25, 8, u46, (List.length M47), (recs qnC (List.set M47 i (qn (hb.op) (hb.field) (hb.text) (hb.edits) (hb.exact) (hb.lo) (hb.hi) vb)))⟩ :: ⟨25, 8, (obj b1), 1, (qR ha va)⟩ :: ⟨25, 8, (obj b2), 1, (qR hb vb)⟩ :: T48) := hw80 ▸ hM72.ext (Kept.drewN _ _ 1)
            have hS82 : Mem [] w0 w79 (⟨25, 8, (obj b57), 1, (qR ha u46)⟩ :: ⟨25, 8, u46, (List.length M47), (recs qnC (List.set M47 i (qn (hb.op) (hb.field) (hb.text) (hb.edits) (hb.exact) (hb.lo) (hb.hi) vb)))⟩ :: ⟨25, 8, (obj b1), 1, (qR ha va)⟩ :: ⟨25, 8, (obj b2), 1, (qR hb vb)⟩ :: T48) := hM81.sub (cc (cc (cc (cc (List.Sublist.refl _)))))
            refine GoH.takeF 0 ((qA ha u46)) (fun W_ => (Instr.loadAt 25 (pq b57)).run Try.prog W_ = .ok ((qA ha u46)) W_) (some 76) (fun W_ => by kernel_rfl) (fun W_ hW_ => c_loads (ys := (qR ha u46)) aE25 (hW_.rd 0 rfl) (cel_obj b57 0) rfl (by intro j u hj; match j, hj with | 0, hj => exact hj | 1, hj => exact hj | 2, hj => exact hj | 3, hj => exact hj | 4, hj => exact hj | 5, hj => exact hj | 6, hj => exact hj | 7, hj => exact hj | n + 8, hj => cases hj)) hS82 ?_
            refine GoH.callF 1 13 #[(qA ha u46)] (some 77) (by kernel_rfl) (check_c (Q.mk qa.h (List.set qa.l i qb)) ha hea u46 (RdQ.upd (show i < qa.l.length by omega) (show Rd _ 8 u46 (List.length M47) (recs qnC (List.set M47 i ⟨hb, vb⟩)) from hM81.rd 1 rfl) h51 h52 (fun j hj => QT.rd hM81 (fun r_ h_ => List.mem_cons_of_mem _ (List.mem_cons_of_mem _ (List.mem_cons_of_mem _ (List.mem_cons_of_mem _ (h_))))) (h53 j hj)) heb (hqb.kept hM81.kept)) (by first | omega | (rw [bulk_two]; omega) | (rw [bulk_one]; omega) | (refine Nat.le_trans (bulk_put (by omega)) (by omega)) | decide +kernel)) ?_
            rintro _ w83 ⟨rfl, m84⟩
            have hM85 := Mem.join hM81 m84
            have hS86 : Mem [] w0 w83 (⟨25, 8, (obj b57), 1, (qR ha u46)⟩ :: ⟨25, 8, u46, (List.length M47), (recs qnC (List.set M47 i (qn (hb.op) (hb.field) (hb.text) (hb.edits) (hb.exact) (hb.lo) (hb.hi) vb)))⟩ :: ⟨25, 8, (obj b1), 1, (qR ha va)⟩ :: ⟨25, 8, (obj b2), 1, (qR hb vb)⟩ :: T48) := hM85.sub (cc (cc (cc (cc (List.Sublist.refl _)))))
            refine ⟨.int .i64 (checkQ (Q.mk qa.h (List.set qa.l i qb))), rfl, .inr hS86, ?_⟩
            refine GoH.takeF 2 (.bool false) (fun W_ => (IntKind.i64 = IntKind.i64) ∧ W_ = W_ ∧ Value.bool false = .bool ((checkQ (Q.mk qa.h (List.set qa.l i qb))) != 0)) (some 78) (fun W_ => by kernel_rfl) (fun W_ hW_ => ⟨rfl, rfl, congrArg Value.bool (Eq.symm (bne_eq_false_iff_eq.2 (check_put hc (by omega) (by omega) (by omega) (by omega))))⟩) hS86 ?_
            refine GoH.takeV 3 (.bool false) (.bool false) (some 79) (fun W_ => by kernel_rfl) rfl hS86 ?_
            refine GoH.takeF 4 ((qA ha u46)) (fun W_ => (Instr.loadAt 25 (pq b57)).run Try.prog W_ = .ok ((qA ha u46)) W_) (some 80) (fun W_ => by kernel_rfl) (fun W_ hW_ => c_loads (ys := (qR ha u46)) aE25 (hW_.rd 0 rfl) (cel_obj b57 0) rfl (by intro j u hj; match j, hj with | 0, hj => exact hj | 1, hj => exact hj | 2, hj => exact hj | 3, hj => exact hj | 4, hj => exact hj | 5, hj => exact hj | 6, hj => exact hj | 7, hj => exact hj | n + 8, hj => cases hj)) hS86 ?_
            refine GoH.takeF 5 ((qA ha va)) (fun W_ => (Instr.loadAt 25 (pq b1)).run Try.prog W_ = .ok ((qA ha va)) W_) (some 81) (fun W_ => by kernel_rfl) (fun W_ hW_ => c_loads (ys := (qR ha va)) aE25 (hW_.rd 2 rfl) (cel_obj b1 0) rfl (by intro j u hj; match j, hj with | 0, hj => exact hj | 1, hj => exact hj | 2, hj => exact hj | 3, hj => exact hj | 4, hj => exact hj | 5, hj => exact hj | 6, hj => exact hj | 7, hj => exact hj | n + 8, hj => cases hj)) hS86 ?_
            refine GoH.takeF 7 ((qA hb vb)) (fun W_ => (Instr.loadAt 25 (pq b2)).run Try.prog W_ = .ok ((qA hb vb)) W_) (some 83) (fun W_ => by kernel_rfl) (fun W_ hW_ => c_loads (ys := (qR hb vb)) aE25 (hW_.rd 3 rfl) (cel_obj b2 0) rfl (by intro j u hj; match j, hj with | 0, hj => exact hj | 1, hj => exact hj | 2, hj => exact hj | 3, hj => exact hj | 4, hj => exact hj | 5, hj => exact hj | 6, hj => exact hj | 7, hj => exact hj | n + 8, hj => cases hj)) hS86 ?_
            refine GoH.takeV 8 (.pointer (some (⟨b1, 7, none⟩))) (.pointer (some (⟨b1, 7, none⟩))) (some 84) (fun W_ => by kernel_rfl) rfl hS86 ?_
            refine GoH.takeF 9 (va) (fun W_ => (Instr.loadAt 23 (.pointer (some (⟨b1, 7, none⟩)))).run Try.prog W_ = .ok (va) W_) (some 85) (fun W_ => by kernel_rfl) (fun W_ hW_ => c_load pE23 (hW_.rd 2 rfl) (cel_obj b1 7) rfl) hS86 ?_
            refine GoH.takeV 10 (.int .i64 ((i : Nat) : Int)) (.int .i64 ((i : Nat) : Int)) (some 86) (fun W_ => by kernel_rfl) rfl hS86 ?_
            obtain ⟨p87, hp88, hq89⟩ := rd_at (i := ((i : Nat) : Int)) sT23 (hra.kept0 hS86.kept) i (by omega) (by first | omega | (dsimp only; omega))
            refine GoH.takeF 11 (.pointer (some p87)) (fun W_ => (Instr.indexAt 23 (va) (.int .i64 ((i : Nat) : Int))).run Try.prog W_ = .ok (.pointer (some p87)) W_) (some 87) (fun W_ => by kernel_rfl) (fun W_ hW_ => hq89 _ _) hS86 ?_
            refine GoH.takeF 12 ((qA ((List.getD La i qz).h) ((List.getD La i qz).parts))) (fun W_ => (Instr.loadAt 25 (.pointer (some p87))).run Try.prog W_ = .ok ((qA ((List.getD La i qz).h) ((List.getD La i qz).parts))) W_) (some 88) (fun W_ => by kernel_rfl) (fun W_ hW_ => r_loads (f := qnC) (l := La) aE25 (hra.kept0 hW_.kept) qnC_len hp88 (by first | omega | (dsimp only; omega)) qz) hS86 ?_
            refine GoH.callF 6 16 #[(qA ha u46), (qA ha va)] (some 82) (by kernel_rfl) (same_c (Q.mk qa.h (List.set qa.l i qb)) ha hea u46 (RdQ.upd (show i < qa.l.length by omega) (show Rd _ 8 u46 (List.length M47) (recs qnC (List.set M47 i ⟨hb, vb⟩)) from hM85.rd 1 rfl) h51 h52 (fun j hj => QT.rd hM85 (fun r_ h_ => List.mem_cons_of_mem _ (List.mem_cons_of_mem _ (List.mem_cons_of_mem _ (List.mem_cons_of_mem _ (h_))))) (h53 j hj)) heb (hqb.kept hM85.kept)) (by first | omega | (rw [bulk_two]; omega) | (rw [bulk_one]; omega) | (refine Nat.le_trans (bulk_put (by omega)) (by omega)) | decide +kernel) qa ha hea va (hqa.kept hM85.kept) (by first | omega | (rw [bulk_two]; omega) | (rw [bulk_one]; omega) | (refine Nat.le_trans (bulk_put (by omega)) (by omega)) | decide +kernel)) ?_
            rintro _ w90 ⟨rfl, m91⟩
            have hM92 := Mem.join hM85 m91
            have hS93 : Mem [] w0 w90 (⟨25, 8, (obj b57), 1, (qR ha u46)⟩ :: ⟨25, 8, u46, (List.length M47), (recs qnC (List.set M47 i (qn (hb.op) (hb.field) (hb.text) (hb.edits) (hb.exact) (hb.lo) (hb.hi) vb)))⟩ :: ⟨25, 8, (obj b1), 1, (qR ha va)⟩ :: ⟨25, 8, (obj b2), 1, (qR hb vb)⟩ :: T48) := hM92.sub (cc (cc (cc (cc (List.Sublist.refl _)))))
            refine ⟨.bool (sameQ (Q.mk qa.h (List.set qa.l i qb)) qa), rfl, .inr hS93, ?_⟩
            have hkb97 := bulk_kid (l := qa.l) (i := i) (by omega)
            have hks98 := size_le (List.getD qa.l i q0)
            have hbs99 := bulk_step (l := qa.l) (i := i) (by omega)
            refine GoH.callF 13 16 #[(qA hb vb), (qA ((List.getD La i qz).h) ((List.getD La i qz).parts))] (some 89) (by kernel_rfl) (same_c qb hb heb vb (hqb.kept hM92.kept) (by first | omega | (rw [bulk_two]; omega) | (rw [bulk_one]; omega) | (refine Nat.le_trans (bulk_put (by omega)) (by omega)) | decide +kernel) (List.getD qa.l i q0) ((List.getD La i qz).h) (hha i (by omega)) ((List.getD La i qz).parts) ((hsa i (by omega)).kept hM92.kept) (by first | omega | (rw [bulk_two]; omega) | (rw [bulk_one]; omega) | (refine Nat.le_trans (bulk_put (by omega)) (by omega)) | decide +kernel)) ?_
            rintro _ w94 ⟨rfl, m95⟩
            have hM96 := Mem.join hM92 m95
            have hS100 : Mem [] w0 w94 (⟨25, 8, (obj b57), 1, (qR ha u46)⟩ :: ⟨25, 8, u46, (List.length M47), (recs qnC (List.set M47 i (qn (hb.op) (hb.field) (hb.text) (hb.edits) (hb.exact) (hb.lo) (hb.hi) vb)))⟩ :: ⟨25, 8, (obj b1), 1, (qR ha va)⟩ :: ⟨25, 8, (obj b2), 1, (qR hb vb)⟩ :: T48) := hM96.sub (cc (cc (cc (cc (List.Sublist.refl _)))))
            refine ⟨.bool (sameQ qb (List.getD qa.l i q0)), rfl, .inr hS100, ?_⟩
            refine GoH.takeF 14 (.bool false) (fun W_ => Try.prog.underlying 4 = some .bool ∧ W_ = W_ ∧ Value.bool false = .bool (!((sameQ (Q.mk qa.h (List.set qa.l i qb)) qa) == (sameQ qb (List.getD qa.l i q0))))) (some 90) (fun W_ => by kernel_rfl) (fun W_ hW_ => ⟨by kernel_rfl, rfl, congrArg Value.bool (Eq.symm (by rw [same_put (by omega)]; simp))⟩) hS100 ?_
            refine GoH.takeV 15 (.bool false) (.bool false) (some 91) (fun W_ => by kernel_rfl) rfl hS100 ?_
            refine GoH.done [2, 3, 5, 91] [(2, pq b1), (3, pq b2), (5, .int .i64 ((i : Nat) : Int)), (91, .bool false)] (by kernel_rfl) (by kernel_rfl) ?_
            have hM101 : Mem [] w0 w94 (⟨25, 8, (obj b1), 1, (qR ha va)⟩ :: ⟨25, 8, (obj b2), 1, (qR hb vb)⟩ :: T48) := hM96.sub (cn (cn (cc (cc (List.Sublist.refl _)))))
            have o102 : (binOp .add 3 (.int .i64 ((i : Nat) : Int)) (.int .i64 1)).run Try.prog w94 = .ok (.int .i64 (((i + 1) : Nat) : Int)) w94 := f_add (by rw [show ((i : Nat) : Int) + 1 = (((i + 1) : Nat) : Int) by omega]; exact IntWalk.i64_in _ (by omega))
            refine GoS.run [2, 3, 5] [.n, .n, .n, .n, .n, .h (.int .i64 (((i + 1) : Nat) : Int)), .n, .n, .n] _ [.code (csub (cd Try.f6) [1,1,1,0,1,0,0]), .inLoop (csub (cd Try.f6) [1,1,1,0,1,0,0]), .inBlock 0, .code (csub (cd Try.f6) [1,1,1,1])] [(2, pq b1), (3, pq b2), (5, .int .i64 (((i + 1) : Nat) : Int))] w94 (by kernel_rfl) (.cons o102 .nil) ?_
            exact ih (i + 1) _ (by omega) (hM101.sub (cc (cc (List.nil_sublist _)))) (by omega)
    ·
      have h3p : ¬ (((i : Nat) : Int) < (((List.length La) : Nat) : Int)) := of_decide_eq_false h3
      have hM4 : Mem [] w0 w [] := hM.sub (cn (cn (List.Sublist.refl _)))
      refine GoS.run [4] [.n, .n, .n, .n, .n] _ [.code (csub (cd Try.f6) [1,1,1,1,1])] [(4, .bool true)] w (by kernel_rfl) .nil ?_
      refine GoS.ret (fn := Try.f6) (v := (.bool true)) Try.func6 (by kernel_rfl) ?_
      rw [hR]
      exact ⟨rfl, (hM4.sub (List.nil_sublist _)).below⟩

set_option maxHeartbeats 2000000 in
theorem lparts_c {w : World} (qa : Q) (ha : Hd) (hea : ha = qa.h) (va : Value) (hqa : RdQ w qa va) (hba : bulkQ qa ≤ 1048576) (qb : Q) (hb : Hd) (heb : hb = qb.h) (vb : Value) (hqb : RdQ w qb vb) (hbb : bulkQ qb ≤ 1048576) (hab : bulkQ qa + bulkQ qb + 10 ≤ 1048576) :
    Calls Try.prog 6 #[(qA ha va), (qA hb vb)] w (fun e w' => e = .returned (.bool true) ∧ Below w.heap.size w w') := by
  obtain ⟨La, hra, hla, hha, hsa⟩ := hqa.inv
  have hbla : bulkL qa.l + qa.h.field.length + qa.h.text.length + 1 = bulkQ qa := by cases qa; rw [bulkQ_mk]; rfl
  have hlna := bulk_len qa.l
  obtain ⟨Lb, hrb, hlb, hhb, hsb⟩ := hqb.inv
  have hblb : bulkL qb.l + qb.h.field.length + qb.h.text.length + 1 = bulkQ qb := by cases qb; rw [bulkQ_mk]; rfl
  have hlnb := bulk_len qb.l
  have hzb := size_le qb
  obtain ⟨R, hR⟩ : ∃ R : Ending → World → Prop, R = (fun e w' => e = .returned (.bool true) ∧ Below w.heap.size w w') := ⟨_, rfl⟩
  rw [← hR]
  refine GoS.enter (n := 92) Try.func6 (by kernel_rfl) rfl [(0, (qA ha va)), (1, (qA hb vb))] (by kernel_rfl) (by kernel_rfl) ?_
  have hM0 := Mem.start w
  obtain ⟨b1, w2, hr3, hM4⟩ := m_box (T := 25) (k := 8) (u := (qA ha va)) rfl rfl hM0
  have hM5 : Mem [] w w2 [⟨25, 8, (obj b1), 1, (qR ha va)⟩] := hM4
  have o11 : (Instr.box 25 ((qA ha va))).run Try.prog w = .ok (pq b1) w2 := hr3
  obtain ⟨b6, w7, hr8, hM9⟩ := m_box (T := 25) (k := 8) (u := (qA hb vb)) rfl rfl hM5
  have hM10 : Mem [] w w7 [⟨25, 8, (obj b6), 1, (qR hb vb)⟩, ⟨25, 8, (obj b1), 1, (qR ha va)⟩] := hM9
  have o12 : (Instr.box 25 ((qA hb vb))).run Try.prog w2 = .ok (pq b6) w7 := hr8
  have o13 : (Instr.loadAt 25 (pq b1)).run Try.prog w7 = .ok ((qA ha va)) w7 := c_loads (ys := (qR ha va)) aE25 (hM10.rd 1 rfl) (cel_obj b1 0) rfl (by intro j u hj; match j, hj with | 0, hj => exact hj | 1, hj => exact hj | 2, hj => exact hj | 3, hj => exact hj | 4, hj => exact hj | 5, hj => exact hj | 6, hj => exact hj | 7, hj => exact hj | n + 8, hj => cases hj)
  refine GoS.run [2, 3, 11] [.n, .n, .u (pq b1) (w2), .u (pq b6) (w7), .n, .n, .n, .n, .n, .h ((qA ha va))] _ [.inRegion (cops (csub (cd Try.f6) [1,0,0])) [1,2,3,4,5,6,7], .code (csub (cd Try.f6) [1,0,1]), .code (csub (cd Try.f6) [1,1])] [(2, pq b1), (3, pq b6), (11, (qA ha va))] w7 (by kernel_rfl) (.cons o11 (.cons o12 (.cons o13 .nil))) ?_
  refine GoS.call [2, 3] 7 #[(qA ha va)] (some 12) [.inRegion (cops (csub (cd Try.f6) [1,0,0])) [2,3,4,5,6,7], .code (csub (cd Try.f6) [1,0,1]), .code (csub (cd Try.f6) [1,1])] [(2, pq b1), (3, pq b6)] (by kernel_rfl) (fewb_c qa ha hea va (hqa.kept hM10.kept) (by first | omega | (rw [bulk_two]; omega) | (rw [bulk_one]; omega) | (refine Nat.le_trans (bulk_put (by omega)) (by omega)) | decide +kernel)) ?_
  rintro _ w14 ⟨rfl, m15⟩
  refine ⟨_, rfl, ?_⟩
  have hM16 := Mem.join hM10 m15
  refine GoS.run [2, 3, 14] [.n, .n] _ [.inRegion (cops (csub (cd Try.f6) [1,0,0])) [4,5,6,7], .code (csub (cd Try.f6) [1,0,1]), .code (csub (cd Try.f6) [1,1])] [(2, pq b1), (3, pq b6), (14, .bool (!(decide (((fewQ qa 0 : Nat) : Int) ≤ 5000))))] w14 (by kernel_rfl) .nil ?_
  refine GoS.fork 14 (!(decide (((fewQ qa 0 : Nat) : Int) ≤ 5000))) (by kernel_rfl) (fun h17 => ?_) (fun h17 => ?_)
  ·
    have h17p : ¬ (((fewQ qa 0 : Nat) : Int) ≤ 5000) := of_decide_eq_false (p_nf h17)
    refine GoS.run [2, 3, 18] [.n, .n, .n, .n] _ [.inRegion (cops (csub (cd Try.f6) [1,0,0])) [], .code (csub (cd Try.f6) [1,0,1]), .code (csub (cd Try.f6) [1,1])] [(2, pq b1), (3, pq b6), (18, .bool true)] w14 (by kernel_rfl) .nil ?_
    have hM22 : Mem [] w w14 [] := hM16.sub (cn (cn (List.Sublist.refl _)))
    refine GoS.run [] [.n, .n, .n, .n] _ [.inRegion (cops (csub (cd Try.f6) [1,0,1,0,0])) [0,1], .code (csub (cd Try.f6) [1,0,1,0,1]), .code (csub (cd Try.f6) [1,1])] [] w14 (by kernel_rfl) .nil ?_
    refine GoS.call [] 8 #[] (some 19) [.inRegion (cops (csub (cd Try.f6) [1,0,1,0,0])) [1], .code (csub (cd Try.f6) [1,0,1,0,1]), .code (csub (cd Try.f6) [1,1])] [] (by kernel_rfl) (awake_c w14) ?_
    rintro _ w23 ⟨rfl, m24⟩
    refine ⟨_, rfl, ?_⟩
    have hM25 := Mem.join hM22 m24
    refine GoS.run [4] [.n, .n] _ [.code (csub (cd Try.f6) [1,0,1,0,1]), .code (csub (cd Try.f6) [1,1])] [(4, .bool true)] w23 (by kernel_rfl) .nil ?_
    refine GoS.ret (fn := Try.f6) (v := (.bool true)) Try.func6 (by kernel_rfl) ?_
    rw [hR]
    exact ⟨rfl, (hM25.sub (List.nil_sublist _)).below⟩
  ·
    have h17p : ((fewQ qa 0 : Nat) : Int) ≤ 5000 := of_decide_eq_true (p_nt h17)
    have o18 : (Instr.loadAt 25 (pq b6)).run Try.prog w14 = .ok ((qA hb vb)) w14 := c_loads (ys := (qR hb vb)) aE25 (hM16.rd 0 rfl) (cel_obj b6 0) rfl (by intro j u hj; match j, hj with | 0, hj => exact hj | 1, hj => exact hj | 2, hj => exact hj | 3, hj => exact hj | 4, hj => exact hj | 5, hj => exact hj | 6, hj => exact hj | 7, hj => exact hj | n + 8, hj => cases hj)
    refine GoS.run [2, 3, 14, 15] [.h ((qA hb vb))] _ [.inRegion (cops (csub (cd Try.f6) [1,0,0])) [5,6,7], .code (csub (cd Try.f6) [1,0,1]), .code (csub (cd Try.f6) [1,1])] [(2, pq b1), (3, pq b6), (14, .bool false), (15, (qA hb vb))] w14 (by kernel_rfl) (.cons o18 .nil) ?_
    refine GoS.call [2, 3, 14] 7 #[(qA hb vb)] (some 16) [.inRegion (cops (csub (cd Try.f6) [1,0,0])) [6,7], .code (csub (cd Try.f6) [1,0,1]), .code (csub (cd Try.f6) [1,1])] [(2, pq b1), (3, pq b6), (14, .bool false)] (by kernel_rfl) (fewb_c qb hb heb vb (hqb.kept hM16.kept) (by first | omega | (rw [bulk_two]; omega) | (rw [bulk_one]; omega) | (refine Nat.le_trans (bulk_put (by omega)) (by omega)) | decide +kernel)) ?_
    rintro _ w19 ⟨rfl, m20⟩
    refine ⟨_, rfl, ?_⟩
    have hM21 := Mem.join hM16 m20
    refine GoS.run [2, 3, 18] [.n, .n] _ [.inRegion (cops (csub (cd Try.f6) [1,0,0])) [], .code (csub (cd Try.f6) [1,0,1]), .code (csub (cd Try.f6) [1,1])] [(2, pq b1), (3, pq b6), (18, .bool (!(decide (((fewQ qb 0 : Nat) : Int) ≤ 5000))))] w19 (by kernel_rfl) .nil ?_
    refine GoS.run [2, 3, 18] [.n] _ [.code (csub (cd Try.f6) [1,0,1]), .code (csub (cd Try.f6) [1,1])] [(2, pq b1), (3, pq b6), (18, .bool (!(decide (((fewQ qb 0 : Nat) : Int) ≤ 5000))))] w19 (by kernel_rfl) .nil ?_
    refine GoS.cond (!(decide (((fewQ qb 0 : Nat) : Int) ≤ 5000))) [.code (csub (cd Try.f6) [1,0,1,0]), .code (csub (cd Try.f6) [1,1])] [.code (csub (cd Try.f6) [1,0,1,1]), .code (csub (cd Try.f6) [1,1])] (by kernel_rfl) (fun h26 => ?_) (fun h26 => ?_)
    ·
      have h26p : ¬ (((fewQ qb 0 : Nat) : Int) ≤ 5000) := of_decide_eq_false (p_nf h26)
      have hM27 : Mem [] w w19 [] := hM21.sub (cn (cn (List.Sublist.refl _)))
      refine GoS.run [] [.n, .n] _ [.inRegion (cops (csub (cd Try.f6) [1,0,1,0,0])) [0,1], .code (csub (cd Try.f6) [1,0,1,0,1]), .code (csub (cd Try.f6) [1,1])] [] w19 (by kernel_rfl) .nil ?_
      refine GoS.call [] 8 #[] (some 19) [.inRegion (cops (csub (cd Try.f6) [1,0,1,0,0])) [1], .code (csub (cd Try.f6) [1,0,1,0,1]), .code (csub (cd Try.f6) [1,1])] [] (by kernel_rfl) (awake_c w19) ?_
      rintro _ w28 ⟨rfl, m29⟩
      refine ⟨_, rfl, ?_⟩
      have hM30 := Mem.join hM27 m29
      refine GoS.run [4] [.n, .n] _ [.code (csub (cd Try.f6) [1,0,1,0,1]), .code (csub (cd Try.f6) [1,1])] [(4, .bool true)] w28 (by kernel_rfl) .nil ?_
      refine GoS.ret (fn := Try.f6) (v := (.bool true)) Try.func6 (by kernel_rfl) ?_
      rw [hR]
      exact ⟨rfl, (hM30.sub (List.nil_sublist _)).below⟩
    ·
      have h26p : ((fewQ qb 0 : Nat) : Int) ≤ 5000 := of_decide_eq_true (p_nt h26)
      refine GoS.run [2, 3] [.n] _ [.code (csub (cd Try.f6) [1,1])] [(2, pq b1), (3, pq b6)] w19 (by kernel_rfl) .nil ?_
      refine GoS.run [2, 3] [.n, .n, .n] _ [.inRegion (cops (csub (cd Try.f6) [1,1,0,0])) [0,1,2,3,4,5,6], .code (csub (cd Try.f6) [1,1,0,1]), .code (csub (cd Try.f6) [1,1,1])] [(2, pq b1), (3, pq b6)] w19 (by kernel_rfl) .nil ?_
      refine GoS.call [2, 3] 8 #[] (some 20) [.inRegion (cops (csub (cd Try.f6) [1,1,0,0])) [1,2,3,4,5,6], .code (csub (cd Try.f6) [1,1,0,1]), .code (csub (cd Try.f6) [1,1,1])] [(2, pq b1), (3, pq b6)] (by kernel_rfl) (awake_c w19) ?_
      rintro _ w31 ⟨rfl, m32⟩
      refine ⟨_, rfl, ?_⟩
      have hM33 := Mem.join hM21 m32
      have o34 : (Instr.loadAt 25 (pq b1)).run Try.prog w31 = .ok ((qA ha va)) w31 := c_loads (ys := (qR ha va)) aE25 (hM33.rd 1 rfl) (cel_obj b1 0) rfl (by intro j u hj; match j, hj with | 0, hj => exact hj | 1, hj => exact hj | 2, hj => exact hj | 3, hj => exact hj | 4, hj => exact hj | 5, hj => exact hj | 6, hj => exact hj | 7, hj => exact hj | n + 8, hj => cases hj)
      refine GoS.run [2, 3, 22, 23] [.n, .n, .h ((qA ha va))] _ [.inRegion (cops (csub (cd Try.f6) [1,1,0,0])) [4,5,6], .code (csub (cd Try.f6) [1,1,0,1]), .code (csub (cd Try.f6) [1,1,1])] [(2, pq b1), (3, pq b6), (22, .bool false), (23, (qA ha va))] w31 (by kernel_rfl) (.cons o34 .nil) ?_
      refine GoS.call [2, 3, 22] 13 #[(qA ha va)] (some 24) [.inRegion (cops (csub (cd Try.f6) [1,1,0,0])) [5,6], .code (csub (cd Try.f6) [1,1,0,1]), .code (csub (cd Try.f6) [1,1,1])] [(2, pq b1), (3, pq b6), (22, .bool false)] (by kernel_rfl) (check_c qa ha hea va (hqa.kept hM33.kept) (by first | omega | (rw [bulk_two]; omega) | (rw [bulk_one]; omega) | (refine Nat.le_trans (bulk_put (by omega)) (by omega)) | decide +kernel)) ?_
      rintro _ w35 ⟨rfl, m36⟩
      refine ⟨_, rfl, ?_⟩
      have hM37 := Mem.join hM33 m36
      refine GoS.run [2, 3, 26] [.n, .n, .n] _ [.code (csub (cd Try.f6) [1,1,0,1]), .code (csub (cd Try.f6) [1,1,1])] [(2, pq b1), (3, pq b6), (26, .bool ((checkQ qa) != 0))] w35 (by kernel_rfl) .nil ?_
      refine GoS.cond ((checkQ qa) != 0) [.code (csub (cd Try.f6) [1,1,0,1,0]), .code (csub (cd Try.f6) [1,1,1])] [.code (csub (cd Try.f6) [1,1,0,1,1]), .code (csub (cd Try.f6) [1,1,1])] (by kernel_rfl) (fun h38 => ?_) (fun h38 => ?_)
      ·
        have h38p : ¬ ((checkQ qa) = 0) := bne_iff_ne.1 h38
        have hM39 : Mem [] w w35 [] := hM37.sub (cn (cn (List.Sublist.refl _)))
        refine GoS.run [] [.n, .n] _ [.inRegion (cops (csub (cd Try.f6) [1,1,0,1,0,0])) [0,1], .code (csub (cd Try.f6) [1,1,0,1,0,1]), .code (csub (cd Try.f6) [1,1,1])] [] w35 (by kernel_rfl) .nil ?_
        refine GoS.call [] 8 #[] (some 27) [.inRegion (cops (csub (cd Try.f6) [1,1,0,1,0,0])) [1], .code (csub (cd Try.f6) [1,1,0,1,0,1]), .code (csub (cd Try.f6) [1,1,1])] [] (by kernel_rfl) (awake_c w35) ?_
        rintro _ w40 ⟨rfl, m41⟩
        refine ⟨_, rfl, ?_⟩
        have hM42 := Mem.join hM39 m41
        refine GoS.run [4] [.n, .n] _ [.code (csub (cd Try.f6) [1,1,0,1,0,1]), .code (csub (cd Try.f6) [1,1,1])] [(4, .bool true)] w40 (by kernel_rfl) .nil ?_
        refine GoS.ret (fn := Try.f6) (v := (.bool true)) Try.func6 (by kernel_rfl) ?_
        rw [hR]
        exact ⟨rfl, (hM42.sub (List.nil_sublist _)).below⟩
      ·
        have h38p : (checkQ qa) = 0 := p_eq h38
        refine GoS.run [2, 3] [.n] _ [.code (csub (cd Try.f6) [1,1,1])] [(2, pq b1), (3, pq b6)] w35 (by kernel_rfl) .nil ?_
        refine GoS.run [2, 3, 5] [.n, .n, .n, .n, .n, .n, .n] _ [.code (csub (cd Try.f6) [1,1,1,0,1,0,0]), .inLoop (csub (cd Try.f6) [1,1,1,0,1,0,0]), .inBlock 0, .code (csub (cd Try.f6) [1,1,1,1])] [(2, pq b1), (3, pq b6), (5, .int .i64 0)] w35 (by kernel_rfl) .nil ?_
        have hM43 : Mem [] w w35 [⟨25, 8, (obj b1), 1, (qR ha va)⟩, ⟨25, 8, (obj b6), 1, (qR hb vb)⟩] := hM37.perm ((List.Perm.cons _ (List.Perm.refl _)).trans (List.Perm.swap _ _ _))
        exact lparts_L qa ha hea va hqa hba qb hb heb vb hqb hbb La hra hla hha hsa Lb hrb hlb hhb hsb (by omega) hab b1 b6 R hR (La.length + 1) 0 w35 (Nat.zero_le _) (hM43.sub (cc (cc (List.nil_sublist _)))) (by omega)


end Go.Proofs.Ytnhplkkbpmijdaa
