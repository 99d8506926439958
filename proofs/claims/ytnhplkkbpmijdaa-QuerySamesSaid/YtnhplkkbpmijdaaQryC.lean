/-
  The walks of Same, of both.
-/
import Derived.Test.YtnhplkkbpmijdaaQryB
namespace Go.Proofs.Ytnhplkkbpmijdaa
open Go Go.Gw Go.UtfP Go.TokP Go.QryP Go.RowKit
set_option linter.unusedVariables false
set_option linter.unusedSimpArgs false

theorem eT38 : EqT Try.prog 38 := ⟨by kernel_rfl, by kernel_rfl, by kernel_rfl⟩

set_option maxHeartbeats 2000000 in
theorem same_c_L (N : Nat) (ih : ∀ (qa : Q), bulkQ qa < N → ∀ {w : World} (ha : Hd) (hea : ha = qa.h) (va : Value) (hqa : RdQ w qa va) (hba : bulkQ qa ≤ 1048576) (qb : Q) (hb : Hd) (heb : hb = qb.h) (vb : Value) (hqb : RdQ w qb vb) (hbb : bulkQ qb ≤ 1048576) , Calls Try.prog 16 #[(qA ha va), (qA hb vb)] w (fun e w' => e = .returned (.bool (sameQ qa qb)) ∧ Mem [] w w' [])) {w0 : World} (qa : Q) (ha : Hd) (hea : ha = qa.h) (va : Value) (hqa : RdQ w0 qa va) (hba : bulkQ qa ≤ 1048576) (qb : Q) (hb : Hd) (heb : hb = qb.h) (vb : Value) (hqb : RdQ w0 qb vb) (hbb : bulkQ qb ≤ 1048576) (La : List QN) (hra : Rd w0 8 va La.length (recs qnC La)) (hla : La.length = qa.l.length) (hha : ∀ j, j < qa.l.length → (La.getD j qz).h = (qa.l.getD j q0).h) (hsa : ∀ j, j < qa.l.length → RdQ w0 (qa.l.getD j q0) (La.getD j qz).parts) (Lb : List QN) (hrb : Rd w0 8 vb Lb.length (recs qnC Lb)) (hlb : Lb.length = qb.l.length) (hhb : ∀ j, j < qb.l.length → (Lb.getD j qz).h = (qb.l.getD j q0).h) (hsb : ∀ j, j < qb.l.length → RdQ w0 (qb.l.getD j q0) (Lb.getD j qz).parts) (b1 b2 : Nat) (hN : bulkQ qa = N) (hLL : La.length = Lb.length) (R : Ending → World → Prop) (hR : R = (fun e w' => e = .returned (.bool (sameQ qa qb)) ∧ Mem [] w0 w' [])) : ∀ (M_ : Nat) (i : Nat) (w : World) (hi : i ≤ La.length) (hS : sameL (qa.l.drop i) (qb.l.drop i) = sameQ qa qb) (hM : Mem [] w0 w [⟨25, 8, (obj b1), 1, (qR ha va)⟩, ⟨25, 8, (obj b2), 1, (qR hb vb)⟩]) (hN : La.length - i < M_), GoS Try.prog 16 R 39 [.code (csub (cd Try.f16) [1,1,0,1,0,0]), .inLoop (csub (cd Try.f16) [1,1,0,1,0,0]), .inBlock 0, .code (csub (cd Try.f16) [1,1,1])] [(2, pq b1), (3, pq b2), (22, .int .i64 (((List.length La) : Nat) : Int)), (23, .int .i64 ((i : Nat) : Int))] w := by
  intro M_
  induction M_ with
  | zero => intro i w hi hS hM hN; exact absurd hN (Nat.not_lt_zero _)
  | succ M_ ih_ =>
    intro i w hi hS hM hN
    have hbla : bulkL qa.l + qa.h.field.length + qa.h.text.length + 1 = bulkQ qa := by cases qa; rw [bulkQ_mk]; rfl
    have hlna := bulk_len qa.l
    have hblb : bulkL qb.l + qb.h.field.length + qb.h.text.length + 1 = bulkQ qb := by cases qb; rw [bulkQ_mk]; rfl
    have hlnb := bulk_len qb.l
    refine GoS.run [2, 3, 22, 23, 24] [.n, .n, .n, .n, .n] _ [.code (csub (cd Try.f16) [1,1,0,1,0,0,1,0]), .code (csub (cd Try.f16) [1,1,0,1,0,0,1,1]), .inLoop (csub (cd Try.f16) [1,1,0,1,0,0]), .inBlock 0, .code (csub (cd Try.f16) [1,1,1])] [(2, pq b1), (3, pq b2), (22, .int .i64 (((List.length La) : Nat) : Int)), (23, .int .i64 ((i : Nat) : Int)), (24, .bool (decide (((i : Nat) : Int) < (((List.length La) : Nat) : Int))))] w (by kernel_rfl) .nil ?_
    refine GoS.cond (decide (((i : Nat) : Int) < (((List.length La) : Nat) : Int))) [.code (csub (cd Try.f16) [1,1,0,1,0,0,1,0,0]), .code (csub (cd Try.f16) [1,1,0,1,0,0,1,1]), .inLoop (csub (cd Try.f16) [1,1,0,1,0,0]), .inBlock 0, .code (csub (cd Try.f16) [1,1,1])] [.code (csub (cd Try.f16) [1,1,0,1,0,0,1,0,1]), .code (csub (cd Try.f16) [1,1,0,1,0,0,1,1]), .inLoop (csub (cd Try.f16) [1,1,0,1,0,0]), .inBlock 0, .code (csub (cd Try.f16) [1,1,1])] (by kernel_rfl) (fun h1 => ?_) (fun h1 => ?_)
    ·
      have h1p : ((i : Nat) : Int) < (((List.length La) : Nat) : Int) := of_decide_eq_true h1
      refine GoS.run [2, 3, 22, 23] [.n] _ [.code (csub (cd Try.f16) [1,1,0,1,0,0,1,1]), .inLoop (csub (cd Try.f16) [1,1,0,1,0,0]), .inBlock 0, .code (csub (cd Try.f16) [1,1,1])] [(2, pq b1), (3, pq b2), (22, .int .i64 (((List.length La) : Nat) : Int)), (23, .int .i64 ((i : Nat) : Int))] w (by kernel_rfl) .nil ?_
      refine GoS.run [2, 3, 5, 22, 23] [.n, .n, .n, .n, .n, .n, .n, .n] _ [.code (csub (cd Try.f16) [1,1,0,1,0,0,1,1,0,0,1,0]), .code (csub (cd Try.f16) [1,1,0,1,0,0,1,1,0,0,1,1]), .inBlock 1, .code (csub (cd Try.f16) [1,1,0,1,0,0,1,1,1]), .inLoop (csub (cd Try.f16) [1,1,0,1,0,0]), .inBlock 0, .code (csub (cd Try.f16) [1,1,1])] [(2, pq b1), (3, pq b2), (5, .int .i64 ((i : Nat) : Int)), (22, .int .i64 (((List.length La) : Nat) : Int)), (23, .int .i64 ((i : Nat) : Int))] w (by kernel_rfl) .nil ?_
      obtain ⟨w3, hw4⟩ : ∃ w_, (w).drewN 1 = w_ := ⟨_, rfl⟩
      refine GoS.held (fun W_ => Mem [] w0 W_ [⟨25, 8, (obj b1), 1, (qR ha va)⟩, ⟨25, 8, (obj b2), 1, (qR hb vb)⟩]) [] 6 (by kernel_rfl) (by kernel_rfl) 12 (by kernel_rfl) ?_
      rw [hw4]
      have hM5 : Mem [] w0 w3 [⟨25, 8, (obj b1), 1, (qR ha va)⟩, ⟨25, 8, (obj b2), 1, (qR hb vb)⟩] := hw4 ▸ hM.ext (Kept.drewN _ _ 1)
      have hS6 : Mem [] w0 w3 [⟨25, 8, (obj b1), 1, (qR ha va)⟩, ⟨25, 8, (obj b2), 1, (qR hb vb)⟩] := hM5.sub (cc (cc (List.Sublist.refl _)))
      refine GoH.takeV 0 (.pointer (some (⟨b1, 7, none⟩))) (.pointer (some (⟨b1, 7, none⟩))) (some 26) (fun W_ => by kernel_rfl) rfl hS6 ?_
      refine GoH.takeF 1 (va) (fun W_ => (Instr.loadAt 23 (.pointer (some (⟨b1, 7, none⟩)))).run Try.prog W_ = .ok (va) W_) (some 27) (fun W_ => by kernel_rfl) (fun W_ hW_ => c_load pE23 (hW_.rd 0 rfl) (cel_obj b1 7) rfl) hS6 ?_
      refine GoH.takeV 2 (.int .i64 ((i : Nat) : Int)) (.int .i64 ((i : Nat) : Int)) (some 28) (fun W_ => by kernel_rfl) rfl hS6 ?_
      obtain ⟨p7, hp8, hq9⟩ := rd_at (i := ((i : Nat) : Int)) sT23 (hra.kept0 hS6.kept) i (by omega) (by first | omega | (dsimp only; omega))
      refine GoH.takeF 3 (.pointer (some p7)) (fun W_ => (Instr.indexAt 23 (va) (.int .i64 ((i : Nat) : Int))).run Try.prog W_ = .ok (.pointer (some p7)) W_) (some 29) (fun W_ => by kernel_rfl) (fun W_ hW_ => hq9 _ _) hS6 ?_
      refine GoH.takeF 4 ((qA ((List.getD La i qz).h) ((List.getD La i qz).parts))) (fun W_ => (Instr.loadAt 25 (.pointer (some p7))).run Try.prog W_ = .ok ((qA ((List.getD La i qz).h) ((List.getD La i qz).parts))) W_) (some 30) (fun W_ => by kernel_rfl) (fun W_ hW_ => r_loads (f := qnC) (l := La) aE25 (hra.kept0 hW_.kept) qnC_len hp8 (by first | omega | (dsimp only; omega)) qz) hS6 ?_
      refine GoH.takeV 5 (.pointer (some (⟨b2, 7, none⟩))) (.pointer (some (⟨b2, 7, none⟩))) (some 31) (fun W_ => by kernel_rfl) rfl hS6 ?_
      refine GoH.takeF 6 (vb) (fun W_ => (Instr.loadAt 23 (.pointer (some (⟨b2, 7, none⟩)))).run Try.prog W_ = .ok (vb) W_) (some 32) (fun W_ => by kernel_rfl) (fun W_ hW_ => c_load pE23 (hW_.rd 1 rfl) (cel_obj b2 7) rfl) hS6 ?_
      refine GoH.takeV 7 (.int .i64 ((i : Nat) : Int)) (.int .i64 ((i : Nat) : Int)) (some 33) (fun W_ => by kernel_rfl) rfl hS6 ?_
      obtain ⟨p10, hp11, hq12⟩ := rd_at (i := ((i : Nat) : Int)) sT23 (hrb.kept0 hS6.kept) i (by omega) (by first | omega | (dsimp only; omega))
      refine GoH.takeF 8 (.pointer (some p10)) (fun W_ => (Instr.indexAt 23 (vb) (.int .i64 ((i : Nat) : Int))).run Try.prog W_ = .ok (.pointer (some p10)) W_) (some 34) (fun W_ => by kernel_rfl) (fun W_ hW_ => hq12 _ _) hS6 ?_
      refine GoH.takeF 9 ((qA ((List.getD Lb i qz).h) ((List.getD Lb i qz).parts))) (fun W_ => (Instr.loadAt 25 (.pointer (some p10))).run Try.prog W_ = .ok ((qA ((List.getD Lb i qz).h) ((List.getD Lb i qz).parts))) W_) (some 35) (fun W_ => by kernel_rfl) (fun W_ hW_ => r_loads (f := qnC) (l := Lb) aE25 (hrb.kept0 hW_.kept) qnC_len hp11 (by first | omega | (dsimp only; omega)) qz) hS6 ?_
      have hkb16 := bulk_kid (l := qa.l) (i := i) (by omega)
      have hks17 := size_le (List.getD qa.l i q0)
      have hbs18 := bulk_step (l := qa.l) (i := i) (by omega)
      have hkb19 := bulk_kid (l := qb.l) (i := i) (by omega)
      have hks20 := size_le (List.getD qb.l i q0)
      have hbs21 := bulk_step (l := qb.l) (i := i) (by omega)
      refine GoH.callF 10 16 #[(qA ((List.getD La i qz).h) ((List.getD La i qz).parts)), (qA ((List.getD Lb i qz).h) ((List.getD Lb i qz).parts))] (some 36) (by kernel_rfl) (ih (List.getD qa.l i q0) (by omega) ((List.getD La i qz).h) (hha i (by omega)) ((List.getD La i qz).parts) ((hsa i (by omega)).kept hM5.kept) (by omega) (List.getD qb.l i q0) ((List.getD Lb i qz).h) (hhb i (by omega)) ((List.getD Lb i qz).parts) ((hsb i (by omega)).kept hM5.kept) (by omega)) ?_
      rintro _ w13 ⟨rfl, m14⟩
      have hM15 : Mem [] w0 w13 [⟨25, 8, (obj b1), 1, (qR ha va)⟩, ⟨25, 8, (obj b2), 1, (qR hb vb)⟩] := Mem.join (R := []) hM5 m14
      have hS22 : Mem [] w0 w13 [⟨25, 8, (obj b1), 1, (qR ha va)⟩, ⟨25, 8, (obj b2), 1, (qR hb vb)⟩] := hM15.sub (cc (cc (List.Sublist.refl _)))
      refine ⟨.bool (sameQ (List.getD qa.l i q0) (List.getD qb.l i q0)), rfl, .inr hS22, ?_⟩
      refine GoH.takeV 11 (.bool (!(sameQ (List.getD qa.l i q0) (List.getD qb.l i q0)))) (.bool (!(sameQ (List.getD qa.l i q0) (List.getD qb.l i q0)))) (some 37) (fun W_ => by kernel_rfl) rfl hS22 ?_
      refine GoH.done [2, 3, 22, 23, 37] [(2, pq b1), (3, pq b2), (22, .int .i64 (((List.length La) : Nat) : Int)), (23, .int .i64 ((i : Nat) : Int)), (37, .bool (!(sameQ (List.getD qa.l i q0) (List.getD qb.l i q0))))] (by kernel_rfl) (by kernel_rfl) ?_
      refine GoS.cond (!(sameQ (List.getD qa.l i q0) (List.getD qb.l i q0))) [.code (csub (cd Try.f16) [1,1,0,1,0,0,1,1,0,0,1,1,0]), .inBlock 1, .code (csub (cd Try.f16) [1,1,0,1,0,0,1,1,1]), .inLoop (csub (cd Try.f16) [1,1,0,1,0,0]), .inBlock 0, .code (csub (cd Try.f16) [1,1,1])] [.code (csub (cd Try.f16) [1,1,0,1,0,0,1,1,0,0,1,1,1]), .inBlock 1, .code (csub (cd Try.f16) [1,1,0,1,0,0,1,1,1]), .inLoop (csub (cd Try.f16) [1,1,0,1,0,0]), .inBlock 0, .code (csub (cd Try.f16) [1,1,1])] (by kernel_rfl) (fun h23 => ?_) (fun h23 => ?_)
      ·
        have hM24 : Mem [] w0 w13 [] := hM15.sub (cn (cn (List.Sublist.refl _)))
        refine GoS.run [4] [.n, .n, .n, .n] _ [.code (csub (cd Try.f16) [1,1,0,1,0,0,1,1,0,0,1,1,0,1]), .inBlock 1, .code (csub (cd Try.f16) [1,1,0,1,0,0,1,1,1]), .inLoop (csub (cd Try.f16) [1,1,0,1,0,0]), .inBlock 0, .code (csub (cd Try.f16) [1,1,1])] [(4, .bool false)] w13 (by kernel_rfl) .nil ?_
        refine GoS.ret (fn := Try.f16) (v := (.bool false)) Try.func16 (by kernel_rfl) ?_
        rw [hR]
        exact ⟨ret_bool (by rw [← hS, same_stepL (i := i) (by omega) (by omega), (show sameQ (List.getD qa.l i q0) (List.getD qb.l i q0) = false by simpa using h23)]; rfl), hM24.sub (List.nil_sublist _)⟩
      ·
        refine GoS.run [2, 3, 22, 23] [.n] _ [.inBlock 1, .code (csub (cd Try.f16) [1,1,0,1,0,0,1,1,1]), .inLoop (csub (cd Try.f16) [1,1,0,1,0,0]), .inBlock 0, .code (csub (cd Try.f16) [1,1,1])] [(2, pq b1), (3, pq b2), (22, .int .i64 (((List.length La) : Nat) : Int)), (23, .int .i64 ((i : Nat) : Int))] w13 (by kernel_rfl) .nil ?_
        have o25 : (binOp .add 3 (.int .i64 ((i : Nat) : Int)) (.int .i64 1)).run Try.prog w13 = .ok (.int .i64 (((i + 1) : Nat) : Int)) w13 := f_add (by rw [show ((i : Nat) : Int) + 1 = (((i + 1) : Nat) : Int) by omega]; exact IntWalk.i64_in _ (by omega))
        refine GoS.run [2, 3, 22, 23] [.n, .n, .h (.int .i64 (((i + 1) : Nat) : Int)), .n, .n, .n] _ [.code (csub (cd Try.f16) [1,1,0,1,0,0]), .inLoop (csub (cd Try.f16) [1,1,0,1,0,0]), .inBlock 0, .code (csub (cd Try.f16) [1,1,1])] [(2, pq b1), (3, pq b2), (22, .int .i64 (((List.length La) : Nat) : Int)), (23, .int .i64 (((i + 1) : Nat) : Int))] w13 (by kernel_rfl) (.cons o25 .nil) ?_
        exact ih_ (i + 1) _ (by omega) (by rw [← hS, same_stepL (i := i) (by omega) (by omega), (show sameQ (List.getD qa.l i q0) (List.getD qb.l i q0) = true by simpa using h23)]; rfl) (hM15.sub (cc (cc (List.nil_sublist _)))) (by omega)
    ·
      have h1p : ¬ (((i : Nat) : Int) < (((List.length La) : Nat) : Int)) := of_decide_eq_false h1
      have hM2 : Mem [] w0 w [] := hM.sub (cn (cn (List.Sublist.refl _)))
      refine GoS.run [4] [.n, .n, .n, .n, .n] _ [.code (csub (cd Try.f16) [1,1,1,1])] [(4, .bool true)] w (by kernel_rfl) .nil ?_
      refine GoS.ret (fn := Try.f16) (v := (.bool true)) Try.func16 (by kernel_rfl) ?_
      rw [hR]
      exact ⟨ret_bool (by rw [← hS, same_end (by omega) (by omega)]), hM2.sub (List.nil_sublist _)⟩

set_option maxHeartbeats 2000000 in
theorem same_c_s (N : Nat) (ih : ∀ (qa : Q), bulkQ qa < N → ∀ {w : World} (ha : Hd) (hea : ha = qa.h) (va : Value) (hqa : RdQ w qa va) (hba : bulkQ qa ≤ 1048576) (qb : Q) (hb : Hd) (heb : hb = qb.h) (vb : Value) (hqb : RdQ w qb vb) (hbb : bulkQ qb ≤ 1048576) , Calls Try.prog 16 #[(qA ha va), (qA hb vb)] w (fun e w' => e = .returned (.bool (sameQ qa qb)) ∧ Mem [] w w' [])) {w : World} (qa : Q) (ha : Hd) (hea : ha = qa.h) (va : Value) (hqa : RdQ w qa va) (hba : bulkQ qa ≤ 1048576) (qb : Q) (hb : Hd) (heb : hb = qb.h) (vb : Value) (hqb : RdQ w qb vb) (hbb : bulkQ qb ≤ 1048576) (hN : bulkQ qa = N) :
    Calls Try.prog 16 #[(qA ha va), (qA hb vb)] w (fun e w' => e = .returned (.bool (sameQ qa qb)) ∧ Mem [] w w' []) := by
  obtain ⟨La, hra, hla, hha, hsa⟩ := hqa.inv
  have hbla : bulkL qa.l + qa.h.field.length + qa.h.text.length + 1 = bulkQ qa := by cases qa; rw [bulkQ_mk]; rfl
  have hlna := bulk_len qa.l
  obtain ⟨Lb, hrb, hlb, hhb, hsb⟩ := hqb.inv
  have hblb : bulkL qb.l + qb.h.field.length + qb.h.text.length + 1 = bulkQ qb := by cases qb; rw [bulkQ_mk]; rfl
  have hlnb := bulk_len qb.l
  obtain ⟨R, hR⟩ : ∃ R : Ending → World → Prop, R = (fun e w' => e = .returned (.bool (sameQ qa qb)) ∧ Mem [] w w' []) := ⟨_, rfl⟩
  rw [← hR]
  refine GoS.enter (n := 39) Try.func16 (by kernel_rfl) rfl [(0, (qA ha va)), (1, (qA hb vb))] (by kernel_rfl) (by kernel_rfl) ?_
  have hM0 := Mem.start w
  obtain ⟨b1, w2, hr3, hM4⟩ := m_box (T := 25) (k := 8) (u := (qA ha va)) rfl rfl hM0
  have hM5 : Mem [] w w2 [⟨25, 8, (obj b1), 1, (qR ha va)⟩] := hM4
  have o11 : (Instr.box 25 ((qA ha va))).run Try.prog w = .ok (pq b1) w2 := hr3
  obtain ⟨b6, w7, hr8, hM9⟩ := m_box (T := 25) (k := 8) (u := (qA hb vb)) rfl rfl hM5
  have hM10 : Mem [] w w7 [⟨25, 8, (obj b6), 1, (qR hb vb)⟩, ⟨25, 8, (obj b1), 1, (qR ha va)⟩] := hM9
  have o12 : (Instr.box 25 ((qA hb vb))).run Try.prog w2 = .ok (pq b6) w7 := hr8
  refine GoS.run [2, 3] [.n, .n, .u (pq b1) (w2), .u (pq b6) (w7), .n, .n, .n, .n] _ [.code (csub (cd Try.f16) [1,0,0]), .code (csub (cd Try.f16) [1,0,1]), .code (csub (cd Try.f16) [1,1])] [(2, pq b1), (3, pq b6)] w7 (by kernel_rfl) (.cons o11 (.cons o12 .nil)) ?_
  obtain ⟨w13, hw14⟩ : ∃ w_, (w7).drewN 1 = w_ := ⟨_, rfl⟩
  refine GoS.held (fun W_ => Mem [] w W_ [⟨25, 8, (obj b6), 1, (qR hb vb)⟩, ⟨25, 8, (obj b1), 1, (qR ha va)⟩]) [] 1 (by kernel_rfl) (by kernel_rfl) 14 (by kernel_rfl) ?_
  rw [hw14]
  have hM15 : Mem [] w w13 [⟨25, 8, (obj b6), 1, (qR hb vb)⟩, ⟨25, 8, (obj b1), 1, (qR ha va)⟩] := hw14 ▸ hM10.ext (Kept.drewN _ _ 1)
  have hS16 : Mem [] w w13 [⟨25, 8, (obj b6), 1, (qR hb vb)⟩, ⟨25, 8, (obj b1), 1, (qR ha va)⟩] := hM15.sub (cc (cc (List.Sublist.refl _)))
  refine GoH.takeF 0 ((qA ha va)) (fun W_ => (Instr.loadAt 25 (pq b1)).run Try.prog W_ = .ok ((qA ha va)) W_) (some 6) (fun W_ => by kernel_rfl) (fun W_ hW_ => c_loads (ys := (qR ha va)) aE25 (hW_.rd 1 rfl) (cel_obj b1 0) rfl (by intro j u hj; match j, hj with | 0, hj => exact hj | 1, hj => exact hj | 2, hj => exact hj | 3, hj => exact hj | 4, hj => exact hj | 5, hj => exact hj | 6, hj => exact hj | 7, hj => exact hj | n + 8, hj => cases hj)) hS16 ?_
  refine GoH.takeF 2 ((qA hb vb)) (fun W_ => (Instr.loadAt 25 (pq b6)).run Try.prog W_ = .ok ((qA hb vb)) W_) (some 8) (fun W_ => by kernel_rfl) (fun W_ hW_ => c_loads (ys := (qR hb vb)) aE25 (hW_.rd 0 rfl) (cel_obj b6 0) rfl (by intro j u hj; match j, hj with | 0, hj => exact hj | 1, hj => exact hj | 2, hj => exact hj | 3, hj => exact hj | 4, hj => exact hj | 5, hj => exact hj | 6, hj => exact hj | 7, hj => exact hj | n + 8, hj => cases hj)) hS16 ?_
  refine GoH.callF 1 21 #[(qA ha va)] (some 7) (by kernel_rfl) (flat_c (w := w13) ha va) ?_
  rintro _ w17 ⟨rfl, m18⟩
  have hM19 : Mem [] w w17 [⟨25, 8, (obj b6), 1, (qR hb vb)⟩, ⟨25, 8, (obj b1), 1, (qR ha va)⟩] := Mem.join (R := []) hM15 m18
  have hS20 : Mem [] w w17 [⟨25, 8, (obj b6), 1, (qR hb vb)⟩, ⟨25, 8, (obj b1), 1, (qR ha va)⟩] := hM19.sub (cc (cc (List.Sublist.refl _)))
  refine ⟨(qH ha), rfl, .inr hS20, ?_⟩
  refine GoH.callF 3 21 #[(qA hb vb)] (some 9) (by kernel_rfl) (flat_c (w := w17) hb vb) ?_
  rintro _ w21 ⟨rfl, m22⟩
  have hM23 : Mem [] w w21 [⟨25, 8, (obj b6), 1, (qR hb vb)⟩, ⟨25, 8, (obj b1), 1, (qR ha va)⟩] := Mem.join (R := []) hM19 m22
  have hS24 : Mem [] w w21 [⟨25, 8, (obj b6), 1, (qR hb vb)⟩, ⟨25, 8, (obj b1), 1, (qR ha va)⟩] := hM23.sub (cc (cc (List.Sublist.refl _)))
  refine ⟨(qH hb), rfl, .inr hS24, ?_⟩
  refine GoH.takeF 4 (.bool (!(decide (ha = hb)))) (fun W_ => Try.prog.eqGuardType Try.prog.depth 38 = false ∧ (binOp .neq 38 ((qH ha)) ((qH hb))).run Try.prog W_ = .ok (.bool (!(decide (ha = hb)))) W_) (some 10) (fun W_ => by kernel_rfl) (fun W_ hW_ => f_agneq eT38 (xs := [.int .i64 (ha.op), .string (sb (ha.field)), .string (sb (ha.text)), .int .i64 (ha.edits), .int .i64 (ha.exact), .int .u64 (ha.lo), .int .u64 (ha.hi)]) (ys := [.int .i64 (hb.op), .string (sb (hb.field)), .string (sb (hb.text)), .int .i64 (hb.edits), .int .i64 (hb.exact), .int .u64 (hb.lo), .int .u64 (hb.hi)]) (r := ((ha.op == hb.op) && (((sb (ha.field)).toList == (sb (hb.field)).toList) && (((sb (ha.text)).toList == (sb (hb.text)).toList) && ((ha.edits == hb.edits) && ((ha.exact == hb.exact) && ((ha.lo == hb.lo) && ((ha.hi == hb.hi) && true)))))))) (by kernel_rfl) (congrArg Bool.not (flat_eq ha hb))) hS24 ?_
  rcases Bool.eq_false_or_eq_true (!(decide (ha = hb))) with h25 | h25
  ·
    refine GoH.takeV 5 (.bool (!(decide (ha = hb)))) (.bool true) (some 11) (fun W_ => by kernel_rfl) (congrArg Value.bool h25) hS24 ?_
    refine GoH.skipF 6 (some 12) (by kernel_rfl) hS24 ?_
    refine GoH.skipF 7 (some 13) (by kernel_rfl) hS24 ?_
    refine GoH.skipF 8 (some 14) (by kernel_rfl) hS24 ?_
    refine GoH.skipF 9 (some 15) (by kernel_rfl) hS24 ?_
    refine GoH.skipF 10 (some 16) (by kernel_rfl) hS24 ?_
    refine GoH.skipF 11 (some 17) (by kernel_rfl) hS24 ?_
    refine GoH.skipF 12 (some 18) (by kernel_rfl) hS24 ?_
    refine GoH.takeV 13 (.bool true) (.bool true) (some 19) (fun W_ => by kernel_rfl) rfl hS24 ?_
    refine GoH.done [2, 3, 19] [(2, pq b1), (3, pq b6), (19, .bool true)] (by kernel_rfl) (by kernel_rfl) ?_
    have hM26 : Mem [] w w21 [] := hM23.sub (cn (cn (List.Sublist.refl _)))
    refine GoS.run [4] [.n, .n, .n, .n, .n] _ [.code (csub (cd Try.f16) [1,0,1,0,1]), .code (csub (cd Try.f16) [1,1])] [(4, .bool false)] w21 (by kernel_rfl) .nil ?_
    refine GoS.ret (fn := Try.f16) (v := (.bool false)) Try.func16 (by kernel_rfl) ?_
    rw [hR]
    exact ⟨ret_bool (same_ne (by rw [← hea, ← heb]; have z := h25; simpa using z)).symm, hM26.sub (List.nil_sublist _)⟩
  ·
    refine GoH.takeV 5 (.bool (!(decide (ha = hb)))) (.bool false) (some 11) (fun W_ => by kernel_rfl) (congrArg Value.bool h25) hS24 ?_
    refine GoH.takeV 6 (.pointer (some (⟨b1, 7, none⟩))) (.pointer (some (⟨b1, 7, none⟩))) (some 12) (fun W_ => by kernel_rfl) rfl hS24 ?_
    refine GoH.takeF 7 (va) (fun W_ => (Instr.loadAt 23 (.pointer (some (⟨b1, 7, none⟩)))).run Try.prog W_ = .ok (va) W_) (some 13) (fun W_ => by kernel_rfl) (fun W_ hW_ => c_load pE23 (hW_.rd 1 rfl) (cel_obj b1 7) rfl) hS24 ?_
    refine GoH.takeF 8 (.int .i64 (((List.length La) : Nat) : Int)) (fun W_ => (Builtin.len_ #[23] 3 #[va]).run Try.prog W_ = .ok (.int .i64 (((List.length La) : Nat) : Int)) W_) (some 14) (fun W_ => by kernel_rfl) (fun W_ hW_ => f_slen sT23 (hra.kept0 hW_.kept) 3 _) hS24 ?_
    refine GoH.takeV 9 (.pointer (some (⟨b6, 7, none⟩))) (.pointer (some (⟨b6, 7, none⟩))) (some 15) (fun W_ => by kernel_rfl) rfl hS24 ?_
    refine GoH.takeF 10 (vb) (fun W_ => (Instr.loadAt 23 (.pointer (some (⟨b6, 7, none⟩)))).run Try.prog W_ = .ok (vb) W_) (some 16) (fun W_ => by kernel_rfl) (fun W_ hW_ => c_load pE23 (hW_.rd 0 rfl) (cel_obj b6 7) rfl) hS24 ?_
    refine GoH.takeF 11 (.int .i64 (((List.length Lb) : Nat) : Int)) (fun W_ => (Builtin.len_ #[23] 3 #[vb]).run Try.prog W_ = .ok (.int .i64 (((List.length Lb) : Nat) : Int)) W_) (some 17) (fun W_ => by kernel_rfl) (fun W_ hW_ => f_slen sT23 (hrb.kept0 hW_.kept) 3 _) hS24 ?_
    refine GoH.takeV 12 (.bool ((((List.length La) : Nat) : Int) != (((List.length Lb) : Nat) : Int))) (.bool ((((List.length La) : Nat) : Int) != (((List.length Lb) : Nat) : Int))) (some 18) (fun W_ => by kernel_rfl) rfl hS24 ?_
    refine GoH.takeV 13 (.bool ((((List.length La) : Nat) : Int) != (((List.length Lb) : Nat) : Int))) (.bool ((((List.length La) : Nat) : Int) != (((List.length Lb) : Nat) : Int))) (some 19) (fun W_ => by kernel_rfl) rfl hS24 ?_
    refine GoH.done [2, 3, 19] [(2, pq b1), (3, pq b6), (19, .bool ((((List.length La) : Nat) : Int) != (((List.length Lb) : Nat) : Int)))] (by kernel_rfl) (by kernel_rfl) ?_
    refine GoS.cond ((((List.length La) : Nat) : Int) != (((List.length Lb) : Nat) : Int)) [.code (csub (cd Try.f16) [1,0,1,0]), .code (csub (cd Try.f16) [1,1])] [.code (csub (cd Try.f16) [1,0,1,1]), .code (csub (cd Try.f16) [1,1])] (by kernel_rfl) (fun h27 => ?_) (fun h27 => ?_)
    ·
      have h27p : ¬ ((((List.length La) : Nat) : Int) = (((List.length Lb) : Nat) : Int)) := bne_iff_ne.1 h27
      have hM28 : Mem [] w w21 [] := hM23.sub (cn (cn (List.Sublist.refl _)))
      refine GoS.run [4] [.n, .n, .n, .n] _ [.code (csub (cd Try.f16) [1,0,1,0,1]), .code (csub (cd Try.f16) [1,1])] [(4, .bool false)] w21 (by kernel_rfl) .nil ?_
      refine GoS.ret (fn := Try.f16) (v := (.bool false)) Try.func16 (by kernel_rfl) ?_
      rw [hR]
      exact ⟨ret_bool (same_nl (by omega)).symm, hM28.sub (List.nil_sublist _)⟩
    ·
      have h27p : (((List.length La) : Nat) : Int) = (((List.length Lb) : Nat) : Int) := p_eq h27
      refine GoS.run [2, 3] [.n] _ [.code (csub (cd Try.f16) [1,1])] [(2, pq b1), (3, pq b6)] w21 (by kernel_rfl) .nil ?_
      have o29 : (Instr.loadAt 23 (.pointer (some (⟨b1, 7, none⟩)))).run Try.prog w21 = .ok (va) w21 := c_load pE23 (hM23.rd 1 rfl) (cel_obj b1 7) rfl
      have o30 : (Builtin.len_ #[23] 3 #[va]).run Try.prog w21 = .ok (.int .i64 (((List.length La) : Nat) : Int)) w21 := f_slen sT23 (hra.kept0 hM23.kept) 3 _
      refine GoS.run [2, 3, 22, 23] [.n, .n, .n, .n, .h (va), .h (.int .i64 (((List.length La) : Nat) : Int)), .n, .n, .n, .n] _ [.code (csub (cd Try.f16) [1,1,0,1,0,0]), .inLoop (csub (cd Try.f16) [1,1,0,1,0,0]), .inBlock 0, .code (csub (cd Try.f16) [1,1,1])] [(2, pq b1), (3, pq b6), (22, .int .i64 (((List.length La) : Nat) : Int)), (23, .int .i64 0)] w21 (by kernel_rfl) (.cons o29 (.cons o30 .nil)) ?_
      have hM31 : Mem [] w w21 [⟨25, 8, (obj b1), 1, (qR ha va)⟩, ⟨25, 8, (obj b6), 1, (qR hb vb)⟩] := hM23.perm (pS pR)
      exact same_c_L N ih qa ha hea va hqa hba qb hb heb vb hqb hbb La hra hla hha hsa Lb hrb hlb hhb hsb b1 b6 hN (by omega) R hR (La.length + 1) 0 w21 (Nat.zero_le _) (same_go (by rw [← hea, ← heb]; exact (by have z := h25; simpa using z))) (hM31.sub (cc (cc (List.nil_sublist _)))) (by omega)

theorem same_c_n : ∀ (N : Nat), ∀ (qa : Q), bulkQ qa ≤ N → ∀ {w : World} (ha : Hd) (hea : ha = qa.h) (va : Value) (hqa : RdQ w qa va) (hba : bulkQ qa ≤ 1048576) (qb : Q) (hb : Hd) (heb : hb = qb.h) (vb : Value) (hqb : RdQ w qb vb) (hbb : bulkQ qb ≤ 1048576) , Calls Try.prog 16 #[(qA ha va), (qA hb vb)] w (fun e w' => e = .returned (.bool (sameQ qa qb)) ∧ Mem [] w w' []) := by
  intro N
  induction N with
  | zero => intro qa hn; have := bulk_pos qa; omega
  | succ N ihn => intro qa hn w ha hea va hqa hba qb hb heb vb hqb hbb; exact same_c_s (bulkQ qa) (fun c hc => ihn c (by omega)) qa ha hea va hqa hba qb hb heb vb hqb hbb rfl

theorem same_c {w : World} (qa : Q) (ha : Hd) (hea : ha = qa.h) (va : Value) (hqa : RdQ w qa va) (hba : bulkQ qa ≤ 1048576) (qb : Q) (hb : Hd) (heb : hb = qb.h) (vb : Value) (hqb : RdQ w qb vb) (hbb : bulkQ qb ≤ 1048576)  :
    Calls Try.prog 16 #[(qA ha va), (qA hb vb)] w (fun e w' => e = .returned (.bool (sameQ qa qb)) ∧ Mem [] w w' []) := same_c_n (bulkQ qa) qa (Nat.le_refl _) ha hea va hqa hba qb hb heb vb hqb hbb

set_option maxHeartbeats 2000000 in
theorem rsame_c_L (N : Nat) (ih : ∀ (qa : Q), bulkQ qa < N → ∀ {w : World} (ha : Hd) (hea : ha = qa.h) (va : Value) (hqa : RdQ w qa va) (hba : bulkQ qa ≤ 1048576) (qb : Q) (hb : Hd) (heb : hb = qb.h) (vb : Value) (hqb : RdQ w qb vb) (hbb : bulkQ qb ≤ 1048576) , Calls Try.prog 15 #[(qA ha va), (qA hb vb)] w (fun e w' => e = .returned (.bool (sameQ qa qb)) ∧ Mem [] w w' [])) {w0 : World} (qa : Q) (ha : Hd) (hea : ha = qa.h) (va : Value) (hqa : RdQ w0 qa va) (hba : bulkQ qa ≤ 1048576) (qb : Q) (hb : Hd) (heb : hb = qb.h) (vb : Value) (hqb : RdQ w0 qb vb) (hbb : bulkQ qb ≤ 1048576) (La : List QN) (hra : Rd w0 8 va La.length (recs qnC La)) (hla : La.length = qa.l.length) (hha : ∀ j, j < qa.l.length → (La.getD j qz).h = (qa.l.getD j q0).h) (hsa : ∀ j, j < qa.l.length → RdQ w0 (qa.l.getD j q0) (La.getD j qz).parts) (Lb : List QN) (hrb : Rd w0 8 vb Lb.length (recs qnC Lb)) (hlb : Lb.length = qb.l.length) (hhb : ∀ j, j < qb.l.length → (Lb.getD j qz).h = (qb.l.getD j q0).h) (hsb : ∀ j, j < qb.l.length → RdQ w0 (qb.l.getD j q0) (Lb.getD j qz).parts) (b1 b2 : Nat) (hN : bulkQ qa = N) (hLL : La.length = Lb.length) (R : Ending → World → Prop) (hR : R = (fun e w' => e = .returned (.bool (sameQ qa qb)) ∧ Mem [] w0 w' [])) : ∀ (M_ : Nat) (i : Nat) (w : World) (hi : i ≤ La.length) (hS : sameL (qa.l.drop i) (qb.l.drop i) = sameQ qa qb) (hM : Mem [] w0 w [⟨25, 8, (obj b1), 1, (qR ha va)⟩, ⟨25, 8, (obj b2), 1, (qR hb vb)⟩]) (hN : La.length - i < M_), GoS Try.prog 15 R 81 [.code (csub (cd Try.f15) [1,1,0,1,0,0]), .inLoop (csub (cd Try.f15) [1,1,0,1,0,0]), .inBlock 0, .code (csub (cd Try.f15) [1,1,1])] [(2, pq b1), (3, pq b2), (5, .int .i64 ((i : Nat) : Int))] w := by
  intro M_
  induction M_ with
  | zero => intro i w hi hS hM hN; exact absurd hN (Nat.not_lt_zero _)
  | succ M_ ih_ =>
    intro i w hi hS hM hN
    have hbla : bulkL qa.l + qa.h.field.length + qa.h.text.length + 1 = bulkQ qa := by cases qa; rw [bulkQ_mk]; rfl
    have hlna := bulk_len qa.l
    have hblb : bulkL qb.l + qb.h.field.length + qb.h.text.length + 1 = bulkQ qb := by cases qb; rw [bulkQ_mk]; rfl
    have hlnb := bulk_len qb.l
    have o1 : (Instr.loadAt 23 (.pointer (some (⟨b1, 7, none⟩)))).run Try.prog w = .ok (va) w := c_load pE23 (hM.rd 0 rfl) (cel_obj b1 7) rfl
    have o2 : (Builtin.len_ #[23] 3 #[va]).run Try.prog w = .ok (.int .i64 (((List.length La) : Nat) : Int)) w := f_slen sT23 (hra.kept0 hM.kept) 3 _
    refine GoS.run [2, 3, 5, 66] [.n, .n, .n, .n, .n, .h (va), .h (.int .i64 (((List.length La) : Nat) : Int)), .n, .n] _ [.code (csub (cd Try.f15) [1,1,0,1,0,0,0,1]), .code (csub (cd Try.f15) [1,1,0,1,0,0,1]), .inLoop (csub (cd Try.f15) [1,1,0,1,0,0]), .inBlock 0, .code (csub (cd Try.f15) [1,1,1])] [(2, pq b1), (3, pq b2), (5, .int .i64 ((i : Nat) : Int)), (66, .bool (decide (((i : Nat) : Int) < (((List.length La) : Nat) : Int))))] w (by kernel_rfl) (.cons o1 (.cons o2 .nil)) ?_
    refine GoS.cond (decide (((i : Nat) : Int) < (((List.length La) : Nat) : Int))) [.code (csub (cd Try.f15) [1,1,0,1,0,0,0,1,0]), .code (csub (cd Try.f15) [1,1,0,1,0,0,1]), .inLoop (csub (cd Try.f15) [1,1,0,1,0,0]), .inBlock 0, .code (csub (cd Try.f15) [1,1,1])] [.code (csub (cd Try.f15) [1,1,0,1,0,0,0,1,1]), .code (csub (cd Try.f15) [1,1,0,1,0,0,1]), .inLoop (csub (cd Try.f15) [1,1,0,1,0,0]), .inBlock 0, .code (csub (cd Try.f15) [1,1,1])] (by kernel_rfl) (fun h3 => ?_) (fun h3 => ?_)
    ·
      have h3p : ((i : Nat) : Int) < (((List.length La) : Nat) : Int) := of_decide_eq_true h3
      refine GoS.run [2, 3, 5] [.n] _ [.code (csub (cd Try.f15) [1,1,0,1,0,0,1]), .inLoop (csub (cd Try.f15) [1,1,0,1,0,0]), .inBlock 0, .code (csub (cd Try.f15) [1,1,1])] [(2, pq b1), (3, pq b2), (5, .int .i64 ((i : Nat) : Int))] w (by kernel_rfl) .nil ?_
      refine GoS.run [2, 3, 5] [.n, .n, .n] _ [.code (csub (cd Try.f15) [1,1,0,1,0,0,1,0,0,0]), .code (csub (cd Try.f15) [1,1,0,1,0,0,1,0,0,1]), .inBlock 1, .code (csub (cd Try.f15) [1,1,0,1,0,0,1,1]), .inLoop (csub (cd Try.f15) [1,1,0,1,0,0]), .inBlock 0, .code (csub (cd Try.f15) [1,1,1])] [(2, pq b1), (3, pq b2), (5, .int .i64 ((i : Nat) : Int))] w (by kernel_rfl) .nil ?_
      obtain ⟨w5, hw6⟩ : ∃ w_, (w).drewN 1 = w_ := ⟨_, rfl⟩
      refine GoS.held (fun W_ => Mem [] w0 W_ [⟨25, 8, (obj b1), 1, (qR ha va)⟩, ⟨25, 8, (obj b2), 1, (qR hb vb)⟩]) [] 6 (by kernel_rfl) (by kernel_rfl) 12 (by kernel_rfl) ?_
      rw [hw6]
      have hM7 : Mem [] w0 w5 [⟨25, 8, (obj b1), 1, (qR ha va)⟩, ⟨25, 8, (obj b2), 1, (qR hb vb)⟩] := hw6 ▸ hM.ext (Kept.drewN _ _ 1)
      have hS8 : Mem [] w0 w5 [⟨25, 8, (obj b1), 1, (qR ha va)⟩, ⟨25, 8, (obj b2), 1, (qR hb vb)⟩] := hM7.sub (cc (cc (List.Sublist.refl _)))
      refine GoH.takeV 0 (.pointer (some (⟨b1, 7, none⟩))) (.pointer (some (⟨b1, 7, none⟩))) (some 69) (fun W_ => by kernel_rfl) rfl hS8 ?_
      refine GoH.takeF 1 (va) (fun W_ => (Instr.loadAt 23 (.pointer (some (⟨b1, 7, none⟩)))).run Try.prog W_ = .ok (va) W_) (some 70) (fun W_ => by kernel_rfl) (fun W_ hW_ => c_load pE23 (hW_.rd 0 rfl) (cel_obj b1 7) rfl) hS8 ?_
      refine GoH.takeV 2 (.int .i64 ((i : Nat) : Int)) (.int .i64 ((i : Nat) : Int)) (some 71) (fun W_ => by kernel_rfl) rfl hS8 ?_
      obtain ⟨p9, hp10, hq11⟩ := rd_at (i := ((i : Nat) : Int)) sT23 (hra.kept0 hS8.kept) i (by omega) (by first | omega | (dsimp only; omega))
      refine GoH.takeF 3 (.pointer (some p9)) (fun W_ => (Instr.indexAt 23 (va) (.int .i64 ((i : Nat) : Int))).run Try.prog W_ = .ok (.pointer (some p9)) W_) (some 72) (fun W_ => by kernel_rfl) (fun W_ hW_ => hq11 _ _) hS8 ?_
      refine GoH.takeF 4 ((qA ((List.getD La i qz).h) ((List.getD La i qz).parts))) (fun W_ => (Instr.loadAt 25 (.pointer (some p9))).run Try.prog W_ = .ok ((qA ((List.getD La i qz).h) ((List.getD La i qz).parts))) W_) (some 73) (fun W_ => by kernel_rfl) (fun W_ hW_ => r_loads (f := qnC) (l := La) aE25 (hra.kept0 hW_.kept) qnC_len hp10 (by first | omega | (dsimp only; omega)) qz) hS8 ?_
      refine GoH.takeV 5 (.pointer (some (⟨b2, 7, none⟩))) (.pointer (some (⟨b2, 7, none⟩))) (some 74) (fun W_ => by kernel_rfl) rfl hS8 ?_
      refine GoH.takeF 6 (vb) (fun W_ => (Instr.loadAt 23 (.pointer (some (⟨b2, 7, none⟩)))).run Try.prog W_ = .ok (vb) W_) (some 75) (fun W_ => by kernel_rfl) (fun W_ hW_ => c_load pE23 (hW_.rd 1 rfl) (cel_obj b2 7) rfl) hS8 ?_
      refine GoH.takeV 7 (.int .i64 ((i : Nat) : Int)) (.int .i64 ((i : Nat) : Int)) (some 76) (fun W_ => by kernel_rfl) rfl hS8 ?_
      obtain ⟨p12, hp13, hq14⟩ := rd_at (i := ((i : Nat) : Int)) sT23 (hrb.kept0 hS8.kept) i (by omega) (by first | omega | (dsimp only; omega))
      refine GoH.takeF 8 (.pointer (some p12)) (fun W_ => (Instr.indexAt 23 (vb) (.int .i64 ((i : Nat) : Int))).run Try.prog W_ = .ok (.pointer (some p12)) W_) (some 77) (fun W_ => by kernel_rfl) (fun W_ hW_ => hq14 _ _) hS8 ?_
      refine GoH.takeF 9 ((qA ((List.getD Lb i qz).h) ((List.getD Lb i qz).parts))) (fun W_ => (Instr.loadAt 25 (.pointer (some p12))).run Try.prog W_ = .ok ((qA ((List.getD Lb i qz).h) ((List.getD Lb i qz).parts))) W_) (some 78) (fun W_ => by kernel_rfl) (fun W_ hW_ => r_loads (f := qnC) (l := Lb) aE25 (hrb.kept0 hW_.kept) qnC_len hp13 (by first | omega | (dsimp only; omega)) qz) hS8 ?_
      have hkb18 := bulk_kid (l := qa.l) (i := i) (by omega)
      have hks19 := size_le (List.getD qa.l i q0)
      have hbs20 := bulk_step (l := qa.l) (i := i) (by omega)
      have hkb21 := bulk_kid (l := qb.l) (i := i) (by omega)
      have hks22 := size_le (List.getD qb.l i q0)
      have hbs23 := bulk_step (l := qb.l) (i := i) (by omega)
      refine GoH.callF 10 15 #[(qA ((List.getD La i qz).h) ((List.getD La i qz).parts)), (qA ((List.getD Lb i qz).h) ((List.getD Lb i qz).parts))] (some 79) (by kernel_rfl) (ih (List.getD qa.l i q0) (by omega) ((List.getD La i qz).h) (hha i (by omega)) ((List.getD La i qz).parts) ((hsa i (by omega)).kept hM7.kept) (by omega) (List.getD qb.l i q0) ((List.getD Lb i qz).h) (hhb i (by omega)) ((List.getD Lb i qz).parts) ((hsb i (by omega)).kept hM7.kept) (by omega)) ?_
      rintro _ w15 ⟨rfl, m16⟩
      have hM17 : Mem [] w0 w15 [⟨25, 8, (obj b1), 1, (qR ha va)⟩, ⟨25, 8, (obj b2), 1, (qR hb vb)⟩] := Mem.join (R := []) hM7 m16
      have hS24 : Mem [] w0 w15 [⟨25, 8, (obj b1), 1, (qR ha va)⟩, ⟨25, 8, (obj b2), 1, (qR hb vb)⟩] := hM17.sub (cc (cc (List.Sublist.refl _)))
      refine ⟨.bool (sameQ (List.getD qa.l i q0) (List.getD qb.l i q0)), rfl, .inr hS24, ?_⟩
      refine GoH.takeV 11 (.bool (!(sameQ (List.getD qa.l i q0) (List.getD qb.l i q0)))) (.bool (!(sameQ (List.getD qa.l i q0) (List.getD qb.l i q0)))) (some 80) (fun W_ => by kernel_rfl) rfl hS24 ?_
      refine GoH.done [2, 3, 5, 80] [(2, pq b1), (3, pq b2), (5, .int .i64 ((i : Nat) : Int)), (80, .bool (!(sameQ (List.getD qa.l i q0) (List.getD qb.l i q0))))] (by kernel_rfl) (by kernel_rfl) ?_
      refine GoS.cond (!(sameQ (List.getD qa.l i q0) (List.getD qb.l i q0))) [.code (csub (cd Try.f15) [1,1,0,1,0,0,1,0,0,1,0]), .inBlock 1, .code (csub (cd Try.f15) [1,1,0,1,0,0,1,1]), .inLoop (csub (cd Try.f15) [1,1,0,1,0,0]), .inBlock 0, .code (csub (cd Try.f15) [1,1,1])] [.code (csub (cd Try.f15) [1,1,0,1,0,0,1,0,0,1,1]), .inBlock 1, .code (csub (cd Try.f15) [1,1,0,1,0,0,1,1]), .inLoop (csub (cd Try.f15) [1,1,0,1,0,0]), .inBlock 0, .code (csub (cd Try.f15) [1,1,1])] (by kernel_rfl) (fun h25 => ?_) (fun h25 => ?_)
      ·
        have hM26 : Mem [] w0 w15 [] := hM17.sub (cn (cn (List.Sublist.refl _)))
        refine GoS.run [4] [.n, .n, .n, .n] _ [.code (csub (cd Try.f15) [1,1,0,1,0,0,1,0,0,1,0,1]), .inBlock 1, .code (csub (cd Try.f15) [1,1,0,1,0,0,1,1]), .inLoop (csub (cd Try.f15) [1,1,0,1,0,0]), .inBlock 0, .code (csub (cd Try.f15) [1,1,1])] [(4, .bool false)] w15 (by kernel_rfl) .nil ?_
        refine GoS.ret (fn := Try.f15) (v := (.bool false)) Try.func15 (by kernel_rfl) ?_
        rw [hR]
        exact ⟨ret_bool (by rw [← hS, same_stepL (i := i) (by omega) (by omega), (show sameQ (List.getD qa.l i q0) (List.getD qb.l i q0) = false by simpa using h25)]; rfl), hM26.sub (List.nil_sublist _)⟩
      ·
        refine GoS.run [2, 3, 5] [.n] _ [.inBlock 1, .code (csub (cd Try.f15) [1,1,0,1,0,0,1,1]), .inLoop (csub (cd Try.f15) [1,1,0,1,0,0]), .inBlock 0, .code (csub (cd Try.f15) [1,1,1])] [(2, pq b1), (3, pq b2), (5, .int .i64 ((i : Nat) : Int))] w15 (by kernel_rfl) .nil ?_
        have o27 : (binOp .add 3 (.int .i64 ((i : Nat) : Int)) (.int .i64 1)).run Try.prog w15 = .ok (.int .i64 (((i + 1) : Nat) : Int)) w15 := f_add (by rw [show ((i : Nat) : Int) + 1 = (((i + 1) : Nat) : Int) by omega]; exact IntWalk.i64_in _ (by omega))
        refine GoS.run [2, 3, 5] [.n, .n, .n, .h (.int .i64 (((i + 1) : Nat) : Int)), .n, .n, .n] _ [.code (csub (cd Try.f15) [1,1,0,1,0,0]), .inLoop (csub (cd Try.f15) [1,1,0,1,0,0]), .inBlock 0, .code (csub (cd Try.f15) [1,1,1])] [(2, pq b1), (3, pq b2), (5, .int .i64 (((i + 1) : Nat) : Int))] w15 (by kernel_rfl) (.cons o27 .nil) ?_
        exact ih_ (i + 1) _ (by omega) (by rw [← hS, same_stepL (i := i) (by omega) (by omega), (show sameQ (List.getD qa.l i q0) (List.getD qb.l i q0) = true by simpa using h25)]; rfl) (hM17.sub (cc (cc (List.nil_sublist _)))) (by omega)
    ·
      have h3p : ¬ (((i : Nat) : Int) < (((List.length La) : Nat) : Int)) := of_decide_eq_false h3
      have hM4 : Mem [] w0 w [] := hM.sub (cn (cn (List.Sublist.refl _)))
      refine GoS.run [4] [.n, .n, .n, .n, .n] _ [.code (csub (cd Try.f15) [1,1,1,1])] [(4, .bool true)] w (by kernel_rfl) .nil ?_
      refine GoS.ret (fn := Try.f15) (v := (.bool true)) Try.func15 (by kernel_rfl) ?_
      rw [hR]
      exact ⟨ret_bool (by rw [← hS, same_end (by omega) (by omega)]), hM4.sub (List.nil_sublist _)⟩

set_option maxHeartbeats 2000000 in
theorem rsame_c_s (N : Nat) (ih : ∀ (qa : Q), bulkQ qa < N → ∀ {w : World} (ha : Hd) (hea : ha = qa.h) (va : Value) (hqa : RdQ w qa va) (hba : bulkQ qa ≤ 1048576) (qb : Q) (hb : Hd) (heb : hb = qb.h) (vb : Value) (hqb : RdQ w qb vb) (hbb : bulkQ qb ≤ 1048576) , Calls Try.prog 15 #[(qA ha va), (qA hb vb)] w (fun e w' => e = .returned (.bool (sameQ qa qb)) ∧ Mem [] w w' [])) {w : World} (qa : Q) (ha : Hd) (hea : ha = qa.h) (va : Value) (hqa : RdQ w qa va) (hba : bulkQ qa ≤ 1048576) (qb : Q) (hb : Hd) (heb : hb = qb.h) (vb : Value) (hqb : RdQ w qb vb) (hbb : bulkQ qb ≤ 1048576) (hN : bulkQ qa = N) :
    Calls Try.prog 15 #[(qA ha va), (qA hb vb)] w (fun e w' => e = .returned (.bool (sameQ qa qb)) ∧ Mem [] w w' []) := by
  obtain ⟨La, hra, hla, hha, hsa⟩ := hqa.inv
  have hbla : bulkL qa.l + qa.h.field.length + qa.h.text.length + 1 = bulkQ qa := by cases qa; rw [bulkQ_mk]; rfl
  have hlna := bulk_len qa.l
  obtain ⟨Lb, hrb, hlb, hhb, hsb⟩ := hqb.inv
  have hblb : bulkL qb.l + qb.h.field.length + qb.h.text.length + 1 = bulkQ qb := by cases qb; rw [bulkQ_mk]; rfl
  have hlnb := bulk_len qb.l
  obtain ⟨R, hR⟩ : ∃ R : Ending → World → Prop, R = (fun e w' => e = .returned (.bool (sameQ qa qb)) ∧ Mem [] w w' []) := ⟨_, rfl⟩
  rw [← hR]
  refine GoS.enter (n := 81) Try.func15 (by kernel_rfl) rfl [(0, (qA ha va)), (1, (qA hb vb))] (by kernel_rfl) (by kernel_rfl) ?_
  have hM0 := Mem.start w
  obtain ⟨b1, w2, hr3, hM4⟩ := m_box (T := 25) (k := 8) (u := (qA ha va)) rfl rfl hM0
  have hM5 : Mem [] w w2 [⟨25, 8, (obj b1), 1, (qR ha va)⟩] := hM4
  have o11 : (Instr.box 25 ((qA ha va))).run Try.prog w = .ok (pq b1) w2 := hr3
  obtain ⟨b6, w7, hr8, hM9⟩ := m_box (T := 25) (k := 8) (u := (qA hb vb)) rfl rfl hM5
  have hM10 : Mem [] w w7 [⟨25, 8, (obj b6), 1, (qR hb vb)⟩, ⟨25, 8, (obj b1), 1, (qR ha va)⟩] := hM9
  have o12 : (Instr.box 25 ((qA hb vb))).run Try.prog w2 = .ok (pq b6) w7 := hr8
  have o13 : (Instr.loadAt 3 (pq b1)).run Try.prog w7 = .ok (.int .i64 (ha.op)) w7 := c_load pE3 (hM10.rd 1 rfl) (cel_obj b1 0) rfl
  have o14 : (Instr.loadAt 3 (pq b6)).run Try.prog w7 = .ok (.int .i64 (hb.op)) w7 := c_load pE3 (hM10.rd 0 rfl) (cel_obj b6 0) rfl
  refine GoS.run [2, 3, 11] [.n, .n, .u (pq b1) (w2), .u (pq b6) (w7), .n, .n, .n, .n, .n, .n, .h (.int .i64 (ha.op)), .n, .h (.int .i64 (hb.op)), .n, .n] _ [.inRegion (cops (csub (cd Try.f15) [1,0,0])) [6,7,8,9,10,11,12,13,14,15,16,17,18,19,20,21,22,23,24,25,26,27,28,29,30,31,32,33,34,35,36,37,38,39,40,41,42,43,44,45,46,47,48,49,50,51,52,53,54,55], .code (csub (cd Try.f15) [1,0,1]), .code (csub (cd Try.f15) [1,1])] [(2, pq b1), (3, pq b6), (11, .bool (ha.op != hb.op))] w7 (by kernel_rfl) (.cons o11 (.cons o12 (.cons o13 (.cons o14 .nil)))) ?_
  refine GoS.fork 11 (ha.op != hb.op) (by kernel_rfl) (fun h15 => ?_) (fun h15 => ?_)
  ·
    have h15p : ¬ (ha.op = hb.op) := bne_iff_ne.1 h15
    refine GoS.run [2, 3, 61] [.n, .n, .n, .n, .n, .n, .n, .n, .n, .n, .n, .n, .n, .n, .n, .n, .n, .n, .n, .n, .n, .n, .n, .n, .n, .n, .n, .n, .n, .n, .n, .n, .n, .n, .n, .n, .n, .n, .n, .n, .n, .n, .n, .n, .n, .n, .n, .n, .n, .n] _ [.inRegion (cops (csub (cd Try.f15) [1,0,0])) [], .code (csub (cd Try.f15) [1,0,1]), .code (csub (cd Try.f15) [1,1])] [(2, pq b1), (3, pq b6), (61, .bool true)] w7 (by kernel_rfl) .nil ?_
    have hM40 : Mem [] w w7 [] := hM10.sub (cn (cn (List.Sublist.refl _)))
    refine GoS.run [4] [.n, .n, .n, .n, .n, .n] _ [.code (csub (cd Try.f15) [1,0,1,0,1]), .code (csub (cd Try.f15) [1,1])] [(4, .bool false)] w7 (by kernel_rfl) .nil ?_
    refine GoS.ret (fn := Try.f15) (v := (.bool false)) Try.func15 (by kernel_rfl) ?_
    rw [hR]
    exact ⟨ret_bool (same_ne (by rw [← hea, ← heb]; exact fun z => h15p (by rw [z]))).symm, hM40.sub (List.nil_sublist _)⟩
  ·
    have h15p : ha.op = hb.op := p_eq h15
    have o16 : (Instr.loadAt 9 (.pointer (some (⟨b1, 1, none⟩)))).run Try.prog w7 = .ok (.string (sb (ha.field))) w7 := c_load pE9 (hM10.rd 1 rfl) (cel_obj b1 1) rfl
    have o17 : (Instr.loadAt 9 (.pointer (some (⟨b6, 1, none⟩)))).run Try.prog w7 = .ok (.string (sb (hb.field))) w7 := c_load pE9 (hM10.rd 0 rfl) (cel_obj b6 1) rfl
    have o18 : (binOp .neq 9 (.string (sb (ha.field))) (.string (sb (hb.field)))).run Try.prog w7 = .ok (.bool (!(decide (ha.field = hb.field)))) w7 := f_strneq
    refine GoS.run [2, 3, 18] [.n, .h (.string (sb (ha.field))), .n, .h (.string (sb (hb.field))), .h (.bool (!(decide (ha.field = hb.field)))), .n, .n] _ [.inRegion (cops (csub (cd Try.f15) [1,0,0])) [13,14,15,16,17,18,19,20,21,22,23,24,25,26,27,28,29,30,31,32,33,34,35,36,37,38,39,40,41,42,43,44,45,46,47,48,49,50,51,52,53,54,55], .code (csub (cd Try.f15) [1,0,1]), .code (csub (cd Try.f15) [1,1])] [(2, pq b1), (3, pq b6), (18, .bool (!(decide (ha.field = hb.field))))] w7 (by kernel_rfl) (.cons o16 (.cons o17 (.cons o18 .nil))) ?_
    refine GoS.fork 18 (!(decide (ha.field = hb.field))) (by kernel_rfl) (fun h19 => ?_) (fun h19 => ?_)
    ·
      have h19p : ¬ (ha.field = hb.field) := of_decide_eq_false (p_nf h19)
      refine GoS.run [2, 3, 61] [.n, .n, .n, .n, .n, .n, .n, .n, .n, .n, .n, .n, .n, .n, .n, .n, .n, .n, .n, .n, .n, .n, .n, .n, .n, .n, .n, .n, .n, .n, .n, .n, .n, .n, .n, .n, .n, .n, .n, .n, .n, .n, .n] _ [.inRegion (cops (csub (cd Try.f15) [1,0,0])) [], .code (csub (cd Try.f15) [1,0,1]), .code (csub (cd Try.f15) [1,1])] [(2, pq b1), (3, pq b6), (61, .bool true)] w7 (by kernel_rfl) .nil ?_
      have hM41 : Mem [] w w7 [] := hM10.sub (cn (cn (List.Sublist.refl _)))
      refine GoS.run [4] [.n, .n, .n, .n, .n, .n] _ [.code (csub (cd Try.f15) [1,0,1,0,1]), .code (csub (cd Try.f15) [1,1])] [(4, .bool false)] w7 (by kernel_rfl) .nil ?_
      refine GoS.ret (fn := Try.f15) (v := (.bool false)) Try.func15 (by kernel_rfl) ?_
      rw [hR]
      exact ⟨ret_bool (same_ne (by rw [← hea, ← heb]; exact fun z => h19p (by rw [z]))).symm, hM41.sub (List.nil_sublist _)⟩
    ·
      have h19p : ha.field = hb.field := of_decide_eq_true (p_nt h19)
      have o20 : (Instr.loadAt 9 (.pointer (some (⟨b1, 2, none⟩)))).run Try.prog w7 = .ok (.string (sb (ha.text))) w7 := c_load pE9 (hM10.rd 1 rfl) (cel_obj b1 2) rfl
      have o21 : (Instr.loadAt 9 (.pointer (some (⟨b6, 2, none⟩)))).run Try.prog w7 = .ok (.string (sb (hb.text))) w7 := c_load pE9 (hM10.rd 0 rfl) (cel_obj b6 2) rfl
      have o22 : (binOp .neq 9 (.string (sb (ha.text))) (.string (sb (hb.text)))).run Try.prog w7 = .ok (.bool (!(decide (ha.text = hb.text)))) w7 := f_strneq
      refine GoS.run [2, 3, 25] [.n, .h (.string (sb (ha.text))), .n, .h (.string (sb (hb.text))), .h (.bool (!(decide (ha.text = hb.text)))), .n, .n] _ [.inRegion (cops (csub (cd Try.f15) [1,0,0])) [20,21,22,23,24,25,26,27,28,29,30,31,32,33,34,35,36,37,38,39,40,41,42,43,44,45,46,47,48,49,50,51,52,53,54,55], .code (csub (cd Try.f15) [1,0,1]), .code (csub (cd Try.f15) [1,1])] [(2, pq b1), (3, pq b6), (25, .bool (!(decide (ha.text = hb.text))))] w7 (by kernel_rfl) (.cons o20 (.cons o21 (.cons o22 .nil))) ?_
      refine GoS.fork 25 (!(decide (ha.text = hb.text))) (by kernel_rfl) (fun h23 => ?_) (fun h23 => ?_)
      ·
        have h23p : ¬ (ha.text = hb.text) := of_decide_eq_false (p_nf h23)
        refine GoS.run [2, 3, 61] [.n, .n, .n, .n, .n, .n, .n, .n, .n, .n, .n, .n, .n, .n, .n, .n, .n, .n, .n, .n, .n, .n, .n, .n, .n, .n, .n, .n, .n, .n, .n, .n, .n, .n, .n, .n] _ [.inRegion (cops (csub (cd Try.f15) [1,0,0])) [], .code (csub (cd Try.f15) [1,0,1]), .code (csub (cd Try.f15) [1,1])] [(2, pq b1), (3, pq b6), (61, .bool true)] w7 (by kernel_rfl) .nil ?_
        have hM42 : Mem [] w w7 [] := hM10.sub (cn (cn (List.Sublist.refl _)))
        refine GoS.run [4] [.n, .n, .n, .n, .n, .n] _ [.code (csub (cd Try.f15) [1,0,1,0,1]), .code (csub (cd Try.f15) [1,1])] [(4, .bool false)] w7 (by kernel_rfl) .nil ?_
        refine GoS.ret (fn := Try.f15) (v := (.bool false)) Try.func15 (by kernel_rfl) ?_
        rw [hR]
        exact ⟨ret_bool (same_ne (by rw [← hea, ← heb]; exact fun z => h23p (by rw [z]))).symm, hM42.sub (List.nil_sublist _)⟩
      ·
        have h23p : ha.text = hb.text := of_decide_eq_true (p_nt h23)
        have o24 : (Instr.loadAt 3 (.pointer (some (⟨b1, 3, none⟩)))).run Try.prog w7 = .ok (.int .i64 (ha.edits)) w7 := c_load pE3 (hM10.rd 1 rfl) (cel_obj b1 3) rfl
        have o25 : (Instr.loadAt 3 (.pointer (some (⟨b6, 3, none⟩)))).run Try.prog w7 = .ok (.int .i64 (hb.edits)) w7 := c_load pE3 (hM10.rd 0 rfl) (cel_obj b6 3) rfl
        refine GoS.run [2, 3, 32] [.n, .h (.int .i64 (ha.edits)), .n, .h (.int .i64 (hb.edits)), .n, .n, .n] _ [.inRegion (cops (csub (cd Try.f15) [1,0,0])) [27,28,29,30,31,32,33,34,35,36,37,38,39,40,41,42,43,44,45,46,47,48,49,50,51,52,53,54,55], .code (csub (cd Try.f15) [1,0,1]), .code (csub (cd Try.f15) [1,1])] [(2, pq b1), (3, pq b6), (32, .bool (ha.edits != hb.edits))] w7 (by kernel_rfl) (.cons o24 (.cons o25 .nil)) ?_
        refine GoS.fork 32 (ha.edits != hb.edits) (by kernel_rfl) (fun h26 => ?_) (fun h26 => ?_)
        ·
          have h26p : ¬ (ha.edits = hb.edits) := bne_iff_ne.1 h26
          refine GoS.run [2, 3, 61] [.n, .n, .n, .n, .n, .n, .n, .n, .n, .n, .n, .n, .n, .n, .n, .n, .n, .n, .n, .n, .n, .n, .n, .n, .n, .n, .n, .n, .n] _ [.inRegion (cops (csub (cd Try.f15) [1,0,0])) [], .code (csub (cd Try.f15) [1,0,1]), .code (csub (cd Try.f15) [1,1])] [(2, pq b1), (3, pq b6), (61, .bool true)] w7 (by kernel_rfl) .nil ?_
          have hM43 : Mem [] w w7 [] := hM10.sub (cn (cn (List.Sublist.refl _)))
          refine GoS.run [4] [.n, .n, .n, .n, .n, .n] _ [.code (csub (cd Try.f15) [1,0,1,0,1]), .code (csub (cd Try.f15) [1,1])] [(4, .bool false)] w7 (by kernel_rfl) .nil ?_
          refine GoS.ret (fn := Try.f15) (v := (.bool false)) Try.func15 (by kernel_rfl) ?_
          rw [hR]
          exact ⟨ret_bool (same_ne (by rw [← hea, ← heb]; exact fun z => h26p (by rw [z]))).symm, hM43.sub (List.nil_sublist _)⟩
        ·
          have h26p : ha.edits = hb.edits := p_eq h26
          have o27 : (Instr.loadAt 3 (.pointer (some (⟨b1, 4, none⟩)))).run Try.prog w7 = .ok (.int .i64 (ha.exact)) w7 := c_load pE3 (hM10.rd 1 rfl) (cel_obj b1 4) rfl
          have o28 : (Instr.loadAt 3 (.pointer (some (⟨b6, 4, none⟩)))).run Try.prog w7 = .ok (.int .i64 (hb.exact)) w7 := c_load pE3 (hM10.rd 0 rfl) (cel_obj b6 4) rfl
          refine GoS.run [2, 3, 39] [.n, .h (.int .i64 (ha.exact)), .n, .h (.int .i64 (hb.exact)), .n, .n, .n] _ [.inRegion (cops (csub (cd Try.f15) [1,0,0])) [34,35,36,37,38,39,40,41,42,43,44,45,46,47,48,49,50,51,52,53,54,55], .code (csub (cd Try.f15) [1,0,1]), .code (csub (cd Try.f15) [1,1])] [(2, pq b1), (3, pq b6), (39, .bool (ha.exact != hb.exact))] w7 (by kernel_rfl) (.cons o27 (.cons o28 .nil)) ?_
          refine GoS.fork 39 (ha.exact != hb.exact) (by kernel_rfl) (fun h29 => ?_) (fun h29 => ?_)
          ·
            have h29p : ¬ (ha.exact = hb.exact) := bne_iff_ne.1 h29
            refine GoS.run [2, 3, 61] [.n, .n, .n, .n, .n, .n, .n, .n, .n, .n, .n, .n, .n, .n, .n, .n, .n, .n, .n, .n, .n, .n] _ [.inRegion (cops (csub (cd Try.f15) [1,0,0])) [], .code (csub (cd Try.f15) [1,0,1]), .code (csub (cd Try.f15) [1,1])] [(2, pq b1), (3, pq b6), (61, .bool true)] w7 (by kernel_rfl) .nil ?_
            have hM44 : Mem [] w w7 [] := hM10.sub (cn (cn (List.Sublist.refl _)))
            refine GoS.run [4] [.n, .n, .n, .n, .n, .n] _ [.code (csub (cd Try.f15) [1,0,1,0,1]), .code (csub (cd Try.f15) [1,1])] [(4, .bool false)] w7 (by kernel_rfl) .nil ?_
            refine GoS.ret (fn := Try.f15) (v := (.bool false)) Try.func15 (by kernel_rfl) ?_
            rw [hR]
            exact ⟨ret_bool (same_ne (by rw [← hea, ← heb]; exact fun z => h29p (by rw [z]))).symm, hM44.sub (List.nil_sublist _)⟩
          ·
            have h29p : ha.exact = hb.exact := p_eq h29
            have o30 : (Instr.loadAt 22 (.pointer (some (⟨b1, 5, none⟩)))).run Try.prog w7 = .ok (.int .u64 (ha.lo)) w7 := c_load pE22 (hM10.rd 1 rfl) (cel_obj b1 5) rfl
            have o31 : (Instr.loadAt 22 (.pointer (some (⟨b6, 5, none⟩)))).run Try.prog w7 = .ok (.int .u64 (hb.lo)) w7 := c_load pE22 (hM10.rd 0 rfl) (cel_obj b6 5) rfl
            refine GoS.run [2, 3, 46] [.n, .h (.int .u64 (ha.lo)), .n, .h (.int .u64 (hb.lo)), .n, .n, .n] _ [.inRegion (cops (csub (cd Try.f15) [1,0,0])) [41,42,43,44,45,46,47,48,49,50,51,52,53,54,55], .code (csub (cd Try.f15) [1,0,1]), .code (csub (cd Try.f15) [1,1])] [(2, pq b1), (3, pq b6), (46, .bool (ha.lo != hb.lo))] w7 (by kernel_rfl) (.cons o30 (.cons o31 .nil)) ?_
            refine GoS.fork 46 (ha.lo != hb.lo) (by kernel_rfl) (fun h32 => ?_) (fun h32 => ?_)
            ·
              have h32p : ¬ (ha.lo = hb.lo) := bne_iff_ne.1 h32
              refine GoS.run [2, 3, 61] [.n, .n, .n, .n, .n, .n, .n, .n, .n, .n, .n, .n, .n, .n, .n] _ [.inRegion (cops (csub (cd Try.f15) [1,0,0])) [], .code (csub (cd Try.f15) [1,0,1]), .code (csub (cd Try.f15) [1,1])] [(2, pq b1), (3, pq b6), (61, .bool true)] w7 (by kernel_rfl) .nil ?_
              have hM45 : Mem [] w w7 [] := hM10.sub (cn (cn (List.Sublist.refl _)))
              refine GoS.run [4] [.n, .n, .n, .n, .n, .n] _ [.code (csub (cd Try.f15) [1,0,1,0,1]), .code (csub (cd Try.f15) [1,1])] [(4, .bool false)] w7 (by kernel_rfl) .nil ?_
              refine GoS.ret (fn := Try.f15) (v := (.bool false)) Try.func15 (by kernel_rfl) ?_
              rw [hR]
              exact ⟨ret_bool (same_ne (by rw [← hea, ← heb]; exact fun z => h32p (by rw [z]))).symm, hM45.sub (List.nil_sublist _)⟩
            ·
              have h32p : ha.lo = hb.lo := p_eq h32
              have o33 : (Instr.loadAt 22 (.pointer (some (⟨b1, 6, none⟩)))).run Try.prog w7 = .ok (.int .u64 (ha.hi)) w7 := c_load pE22 (hM10.rd 1 rfl) (cel_obj b1 6) rfl
              have o34 : (Instr.loadAt 22 (.pointer (some (⟨b6, 6, none⟩)))).run Try.prog w7 = .ok (.int .u64 (hb.hi)) w7 := c_load pE22 (hM10.rd 0 rfl) (cel_obj b6 6) rfl
              refine GoS.run [2, 3, 53] [.n, .h (.int .u64 (ha.hi)), .n, .h (.int .u64 (hb.hi)), .n, .n, .n] _ [.inRegion (cops (csub (cd Try.f15) [1,0,0])) [48,49,50,51,52,53,54,55], .code (csub (cd Try.f15) [1,0,1]), .code (csub (cd Try.f15) [1,1])] [(2, pq b1), (3, pq b6), (53, .bool (ha.hi != hb.hi))] w7 (by kernel_rfl) (.cons o33 (.cons o34 .nil)) ?_
              refine GoS.fork 53 (ha.hi != hb.hi) (by kernel_rfl) (fun h35 => ?_) (fun h35 => ?_)
              ·
                have h35p : ¬ (ha.hi = hb.hi) := bne_iff_ne.1 h35
                refine GoS.run [2, 3, 61] [.n, .n, .n, .n, .n, .n, .n, .n] _ [.inRegion (cops (csub (cd Try.f15) [1,0,0])) [], .code (csub (cd Try.f15) [1,0,1]), .code (csub (cd Try.f15) [1,1])] [(2, pq b1), (3, pq b6), (61, .bool true)] w7 (by kernel_rfl) .nil ?_
                have hM46 : Mem [] w w7 [] := hM10.sub (cn (cn (List.Sublist.refl _)))
                refine GoS.run [4] [.n, .n, .n, .n, .n, .n] _ [.code (csub (cd Try.f15) [1,0,1,0,1]), .code (csub (cd Try.f15) [1,1])] [(4, .bool false)] w7 (by kernel_rfl) .nil ?_
                refine GoS.ret (fn := Try.f15) (v := (.bool false)) Try.func15 (by kernel_rfl) ?_
                rw [hR]
                exact ⟨ret_bool (same_ne (by rw [← hea, ← heb]; exact fun z => h35p (by rw [z]))).symm, hM46.sub (List.nil_sublist _)⟩
              ·
                have h35p : ha.hi = hb.hi := p_eq h35
                have o36 : (Instr.loadAt 23 (.pointer (some (⟨b1, 7, none⟩)))).run Try.prog w7 = .ok (va) w7 := c_load pE23 (hM10.rd 1 rfl) (cel_obj b1 7) rfl
                have o37 : (Builtin.len_ #[23] 3 #[va]).run Try.prog w7 = .ok (.int .i64 (((List.length La) : Nat) : Int)) w7 := f_slen sT23 (hra.kept0 hM10.kept) 3 _
                have o38 : (Instr.loadAt 23 (.pointer (some (⟨b6, 7, none⟩)))).run Try.prog w7 = .ok (vb) w7 := c_load pE23 (hM10.rd 0 rfl) (cel_obj b6 7) rfl
                have o39 : (Builtin.len_ #[23] 3 #[vb]).run Try.prog w7 = .ok (.int .i64 (((List.length Lb) : Nat) : Int)) w7 := f_slen sT23 (hrb.kept0 hM10.kept) 3 _
                refine GoS.run [2, 3, 61] [.n, .h (va), .h (.int .i64 (((List.length La) : Nat) : Int)), .n, .h (vb), .h (.int .i64 (((List.length Lb) : Nat) : Int)), .n, .n] _ [.inRegion (cops (csub (cd Try.f15) [1,0,0])) [], .code (csub (cd Try.f15) [1,0,1]), .code (csub (cd Try.f15) [1,1])] [(2, pq b1), (3, pq b6), (61, .bool ((((List.length La) : Nat) : Int) != (((List.length Lb) : Nat) : Int)))] w7 (by kernel_rfl) (.cons o36 (.cons o37 (.cons o38 (.cons o39 .nil)))) ?_
                refine GoS.run [2, 3, 61] [.n] _ [.code (csub (cd Try.f15) [1,0,1]), .code (csub (cd Try.f15) [1,1])] [(2, pq b1), (3, pq b6), (61, .bool ((((List.length La) : Nat) : Int) != (((List.length Lb) : Nat) : Int)))] w7 (by kernel_rfl) .nil ?_
                refine GoS.cond ((((List.length La) : Nat) : Int) != (((List.length Lb) : Nat) : Int)) [.code (csub (cd Try.f15) [1,0,1,0]), .code (csub (cd Try.f15) [1,1])] [.code (csub (cd Try.f15) [1,0,1,1]), .code (csub (cd Try.f15) [1,1])] (by kernel_rfl) (fun h47 => ?_) (fun h47 => ?_)
                ·
                  have h47p : ¬ ((((List.length La) : Nat) : Int) = (((List.length Lb) : Nat) : Int)) := bne_iff_ne.1 h47
                  have hM48 : Mem [] w w7 [] := hM10.sub (cn (cn (List.Sublist.refl _)))
                  refine GoS.run [4] [.n, .n, .n, .n] _ [.code (csub (cd Try.f15) [1,0,1,0,1]), .code (csub (cd Try.f15) [1,1])] [(4, .bool false)] w7 (by kernel_rfl) .nil ?_
                  refine GoS.ret (fn := Try.f15) (v := (.bool false)) Try.func15 (by kernel_rfl) ?_
                  rw [hR]
                  exact ⟨ret_bool (same_nl (by omega)).symm, hM48.sub (List.nil_sublist _)⟩
                ·
                  have h47p : (((List.length La) : Nat) : Int) = (((List.length Lb) : Nat) : Int) := p_eq h47
                  refine GoS.run [2, 3] [.n] _ [.code (csub (cd Try.f15) [1,1])] [(2, pq b1), (3, pq b6)] w7 (by kernel_rfl) .nil ?_
                  refine GoS.run [2, 3, 5] [.n, .n, .n, .n, .n, .n, .n] _ [.code (csub (cd Try.f15) [1,1,0,1,0,0]), .inLoop (csub (cd Try.f15) [1,1,0,1,0,0]), .inBlock 0, .code (csub (cd Try.f15) [1,1,1])] [(2, pq b1), (3, pq b6), (5, .int .i64 0)] w7 (by kernel_rfl) .nil ?_
                  have hM49 : Mem [] w w7 [⟨25, 8, (obj b1), 1, (qR ha va)⟩, ⟨25, 8, (obj b6), 1, (qR hb vb)⟩] := hM10.perm (pS pR)
                  exact rsame_c_L N ih qa ha hea va hqa hba qb hb heb vb hqb hbb La hra hla hha hsa Lb hrb hlb hhb hsb b1 b6 hN (by omega) R hR (La.length + 1) 0 w7 (Nat.zero_le _) (same_go (by rw [← hea, ← heb]; exact (hd_ext h15p h19p h23p h26p h29p h32p h35p))) (hM49.sub (cc (cc (List.nil_sublist _)))) (by omega)

theorem rsame_c_n : ∀ (N : Nat), ∀ (qa : Q), bulkQ qa ≤ N → ∀ {w : World} (ha : Hd) (hea : ha = qa.h) (va : Value) (hqa : RdQ w qa va) (hba : bulkQ qa ≤ 1048576) (qb : Q) (hb : Hd) (heb : hb = qb.h) (vb : Value) (hqb : RdQ w qb vb) (hbb : bulkQ qb ≤ 1048576) , Calls Try.prog 15 #[(qA ha va), (qA hb vb)] w (fun e w' => e = .returned (.bool (sameQ qa qb)) ∧ Mem [] w w' []) := by
  intro N
  induction N with
  | zero => intro qa hn; have := bulk_pos qa; omega
  | succ N ihn => intro qa hn w ha hea va hqa hba qb hb heb vb hqb hbb; exact rsame_c_s (bulkQ qa) (fun c hc => ihn c (by omega)) qa ha hea va hqa hba qb hb heb vb hqb hbb rfl

theorem rsame_c {w : World} (qa : Q) (ha : Hd) (hea : ha = qa.h) (va : Value) (hqa : RdQ w qa va) (hba : bulkQ qa ≤ 1048576) (qb : Q) (hb : Hd) (heb : hb = qb.h) (vb : Value) (hqb : RdQ w qb vb) (hbb : bulkQ qb ≤ 1048576)  :
    Calls Try.prog 15 #[(qA ha va), (qA hb vb)] w (fun e w' => e = .returned (.bool (sameQ qa qb)) ∧ Mem [] w w' []) := rsame_c_n (bulkQ qa) qa (Nat.le_refl _) ha hea va hqa hba qb hb heb vb hqb hbb


end Go.Proofs.Ytnhplkkbpmijdaa
