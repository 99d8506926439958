/-
  The walk of PostingReads.
-/
import Derived.Test.YthimiheeheaaaaaPosH
import Derived.Test.YthimiheeheaaaaaPosJ
namespace Go.Proofs.Ythimiheeheaaaaa
open Go Go.Gw Go.NumP Go.LiveP Go.PackP Go.PostP Go.RowKit
set_option linter.unusedVariables false
set_option linter.unusedSimpArgs false


theorem perm3 (A B C : List Row) : ((A ++ B) ++ C).Perm ((C ++ B) ++ A) := by
  rw [List.append_assoc, List.append_assoc]
  exact (List.perm_append_comm).trans ((List.perm_append_comm.append_right A).trans (by rw [List.append_assoc]))

set_option maxHeartbeats 400000 in
theorem lreads_L2 (s : List UInt8) {w0 : World} (hs : s.length ≤ 1048576) (vc : Value) (Yc : Nat → Value) (vb : Value) (Yb : Nat → Value) (va : Value) (Ya : Nat → Value) (k : Nat) (hk : k < (readX s).1.length) (R : Ending → World → Prop) (hR : R = (fun e w' => e = .returned (.bool true) ∧ Below w0.heap.size w0 w')) : ∀ (N : Nat) (q : List Int) (j : Nat) (w : World) (out : ∀ (w : World), Mem [] w0 w (⟨40, 2, vc, (List.length ((readX s).1)), (pcells ((readX s).1) Yc)⟩ :: ⟨40, 2, vb, (List.length ((readX s).1)), (pcells ((readX s).1) Yb)⟩ :: ⟨40, 2, va, (List.length ((readX s).1)), (pcells ((readX s).1) Ya)⟩ :: (((atR 3 Yc ((readX s).1) 0 (List.length ((readX s).1))) ++ (atR 3 Yb ((readX s).1) 0 (List.length ((readX s).1)))) ++ (atR 3 Ya ((readX s).1) (k + 1) (List.length ((readX s).1) - (k + 1))))) → GoS Try.prog 4 R 76 [.code (csub (cd Try.f4) [1,1,1,1,1,0,1,0,0]), .inLoop (csub (cd Try.f4) [1,1,1,1,1,0,1,0,0]), .inBlock 0, .code (csub (cd Try.f4) [1,1,1,1,1,1])] [(3, va), (5, vb), (7, vc), (9, .int .i64 (((k + 1) : Nat) : Int))] w) (hql : q.length = ((readX s).1.getD k zp).2.length) (hj : j ≤ q.length) (hM : Mem [] w0 w (⟨3, 1, (Ya k), (List.length q), (ivals .i64 q)⟩ :: ⟨40, 2, vc, (List.length ((readX s).1)), (pcells ((readX s).1) Yc)⟩ :: ⟨40, 2, vb, (List.length ((readX s).1)), (pcells ((readX s).1) Yb)⟩ :: ⟨40, 2, va, (List.length ((readX s).1)), (pcells ((readX s).1) Ya)⟩ :: (((atR 3 Yc ((readX s).1) 0 (List.length ((readX s).1))) ++ (atR 3 Yb ((readX s).1) 0 (List.length ((readX s).1)))) ++ (atR 3 Ya ((readX s).1) (k + 1) (List.length ((readX s).1) - (k + 1)))))) (hN : q.length - j < N), GoS Try.prog 4 R 76 [.code (csub (cd Try.f4) [1,1,1,1,1,0,1,0,0,1,0,0,0,1,0,0]), .inLoop (csub (cd Try.f4) [1,1,1,1,1,0,1,0,0,1,0,0,0,1,0,0]), .inBlock 2, .code (csub (cd Try.f4) [1,1,1,1,1,0,1,0,0,1,0,0,1]), .inBlock 1, .code (csub (cd Try.f4) [1,1,1,1,1,0,1,0,0,1,1]), .inLoop (csub (cd Try.f4) [1,1,1,1,1,0,1,0,0]), .inBlock 0, .code (csub (cd Try.f4) [1,1,1,1,1,1])] [(3, va), (5, vb), (7, vc), (9, .int .i64 ((k : Nat) : Int)), (10, .int .i64 ((j : Nat) : Int))] w := by
  intro N
  induction N with
  | zero => intro q j w out hql hj hM hN; exact absurd hN (Nat.not_lt_zero _)
  | succ N ih =>
    intro q j w out hql hj hM hN
    have hsm := readX_small s
    have hsl := hsm.1
    have hsi := hsm.2 k
    obtain ⟨p1, hp2, hq3⟩ := rd_at (i := ((k : Nat) : Int)) sT22 (hM.rd 3 rfl) k (by omega) (by first | omega | ((try dsimp only); omega))
    have o4 : (Instr.indexAt 22 (va) (.int .i64 ((k : Nat) : Int))).run Try.prog w = .ok (.pointer (some p1)) w := hq3 _ _
    have o5 : (Instr.loadAt 38 (.pointer (some (Addr.add p1 1)))).run Try.prog w = .ok ((Ya k)) w := c_load pE38 (hM.rd 3 rfl) (Cel.add (At.cel hp2) 1) (p_at1 (by first | omega | ((try dsimp only); omega)))
    have o6 : (Builtin.len_ #[38] 3 #[(Ya k)]).run Try.prog w = .ok (.int .i64 (((List.length q) : Nat) : Int)) w := f_slen sT38 (hM.rd 0 rfl) 3 _
    refine GoS.run [3, 5, 7, 9, 10, 53] [.n, .n, .n, .n, .n, .n, .h (.pointer (some p1)), .n, .h ((Ya k)), .h (.int .i64 (((List.length q) : Nat) : Int)), .n, .n] _ [.code (csub (cd Try.f4) [1,1,1,1,1,0,1,0,0,1,0,0,0,1,0,0,0,1]), .code (csub (cd Try.f4) [1,1,1,1,1,0,1,0,0,1,0,0,0,1,0,0,1]), .inLoop (csub (cd Try.f4) [1,1,1,1,1,0,1,0,0,1,0,0,0,1,0,0]), .inBlock 2, .code (csub (cd Try.f4) [1,1,1,1,1,0,1,0,0,1,0,0,1]), .inBlock 1, .code (csub (cd Try.f4) [1,1,1,1,1,0,1,0,0,1,1]), .inLoop (csub (cd Try.f4) [1,1,1,1,1,0,1,0,0]), .inBlock 0, .code (csub (cd Try.f4) [1,1,1,1,1,1])] [(3, va), (5, vb), (7, vc), (9, .int .i64 ((k : Nat) : Int)), (10, .int .i64 ((j : Nat) : Int)), (53, .bool (decide (((j : Nat) : Int) < (((List.length q) : Nat) : Int))))] w (by kernel_rfl) (.cons o4 (.cons o5 (.cons o6 .nil))) ?_
    refine GoS.cond (decide (((j : Nat) : Int) < (((List.length q) : Nat) : Int))) [.code (csub (cd Try.f4) [1,1,1,1,1,0,1,0,0,1,0,0,0,1,0,0,0,1,0]), .code (csub (cd Try.f4) [1,1,1,1,1,0,1,0,0,1,0,0,0,1,0,0,1]), .inLoop (csub (cd Try.f4) [1,1,1,1,1,0,1,0,0,1,0,0,0,1,0,0]), .inBlock 2, .code (csub (cd Try.f4) [1,1,1,1,1,0,1,0,0,1,0,0,1]), .inBlock 1, .code (csub (cd Try.f4) [1,1,1,1,1,0,1,0,0,1,1]), .inLoop (csub (cd Try.f4) [1,1,1,1,1,0,1,0,0]), .inBlock 0, .code (csub (cd Try.f4) [1,1,1,1,1,1])] [.code (csub (cd Try.f4) [1,1,1,1,1,0,1,0,0,1,0,0,0,1,0,0,0,1,1]), .code (csub (cd Try.f4) [1,1,1,1,1,0,1,0,0,1,0,0,0,1,0,0,1]), .inLoop (csub (cd Try.f4) [1,1,1,1,1,0,1,0,0,1,0,0,0,1,0,0]), .inBlock 2, .code (csub (cd Try.f4) [1,1,1,1,1,0,1,0,0,1,0,0,1]), .inBlock 1, .code (csub (cd Try.f4) [1,1,1,1,1,0,1,0,0,1,1]), .inLoop (csub (cd Try.f4) [1,1,1,1,1,0,1,0,0]), .inBlock 0, .code (csub (cd Try.f4) [1,1,1,1,1,1])] (by kernel_rfl) (fun h7 => ?_) (fun h7 => ?_)
    ·
      have h7p : ((j : Nat) : Int) < (((List.length q) : Nat) : Int) := of_decide_eq_true h7
      refine GoS.run [3, 5, 7, 9, 10] [.n] _ [.code (csub (cd Try.f4) [1,1,1,1,1,0,1,0,0,1,0,0,0,1,0,0,1]), .inLoop (csub (cd Try.f4) [1,1,1,1,1,0,1,0,0,1,0,0,0,1,0,0]), .inBlock 2, .code (csub (cd Try.f4) [1,1,1,1,1,0,1,0,0,1,0,0,1]), .inBlock 1, .code (csub (cd Try.f4) [1,1,1,1,1,0,1,0,0,1,1]), .inLoop (csub (cd Try.f4) [1,1,1,1,1,0,1,0,0]), .inBlock 0, .code (csub (cd Try.f4) [1,1,1,1,1,1])] [(3, va), (5, vb), (7, vc), (9, .int .i64 ((k : Nat) : Int)), (10, .int .i64 ((j : Nat) : Int))] w (by kernel_rfl) .nil ?_
      obtain ⟨p28, hp29, hq30⟩ := rd_at (i := ((k : Nat) : Int)) sT22 (hM.rd 3 rfl) k (by omega) (by first | omega | ((try dsimp only); omega))
      have o38 : (Instr.indexAt 22 (va) (.int .i64 ((k : Nat) : Int))).run Try.prog w = .ok (.pointer (some p28)) w := hq30 _ _
      have o39 : (Instr.loadAt 38 (.pointer (some (Addr.add p28 1)))).run Try.prog w = .ok ((Ya k)) w := c_load pE38 (hM.rd 3 rfl) (Cel.add (At.cel hp29) 1) (p_at1 (by first | omega | ((try dsimp only); omega)))
      obtain ⟨p31, hp32, hq33⟩ := rd_at (i := ((j : Nat) : Int)) sT38 (hM.rd 0 rfl) j (by omega) (by first | omega | ((try dsimp only); omega))
      have o40 : (Instr.indexAt 38 ((Ya k)) (.int .i64 ((j : Nat) : Int))).run Try.prog w = .ok (.pointer (some p31)) w := hq33 _ _
      obtain ⟨w34, hr35, hM36⟩ := at_store (u := .int .i64 (-1)) (by kernel_rfl) hM 0 rfl hp32 (by first | omega | ((try dsimp only); omega)) rfl rfl
      have hM37 : Mem [] w0 w34 (⟨3, 1, (Ya k), (List.length q), (ivals .i64 (List.set q j (-1)))⟩ :: ⟨40, 2, vc, (List.length ((readX s).1)), (pcells ((readX s).1) Yc)⟩ :: ⟨40, 2, vb, (List.length ((readX s).1)), (pcells ((readX s).1) Yb)⟩ :: ⟨40, 2, va, (List.length ((readX s).1)), (pcells ((readX s).1) Ya)⟩ :: (((atR 3 Yc ((readX s).1) 0 (List.length ((readX s).1))) ++ (atR 3 Yb ((readX s).1) 0 (List.length ((readX s).1)))) ++ (atR 3 Ya ((readX s).1) (k + 1) (List.length ((readX s).1) - (k + 1))))) := hM36.cast (by simp [ivals, svals, bvals, nvals, u8s, List.map_set])
      have o41 : (Instr.storeAt 3 (.pointer (some p31)) (.int .i64 (-1))).run Try.prog w = .ok () w34 ∧ undef = undef := ⟨hr35, rfl⟩
      have o42 : (binOp .add 3 (.int .i64 ((j : Nat) : Int)) (.int .i64 1)).run Try.prog w34 = .ok (.int .i64 (((j + 1) : Nat) : Int)) w34 := f_add (by rw [show ((j : Nat) : Int) + 1 = (((j + 1) : Nat) : Int) by omega]; exact IntWalk.i64_in _ (by omega))
      refine GoS.run [3, 5, 7, 9, 10] [.n, .n, .n, .n, .n, .h (.pointer (some p28)), .n, .h ((Ya k)), .n, .h (.pointer (some p31)), .u (undef) (w34), .n, .n, .n, .n, .h (.int .i64 (((j + 1) : Nat) : Int)), .n, .n, .n] _ [.code (csub (cd Try.f4) [1,1,1,1,1,0,1,0,0,1,0,0,0,1,0,0]), .inLoop (csub (cd Try.f4) [1,1,1,1,1,0,1,0,0,1,0,0,0,1,0,0]), .inBlock 2, .code (csub (cd Try.f4) [1,1,1,1,1,0,1,0,0,1,0,0,1]), .inBlock 1, .code (csub (cd Try.f4) [1,1,1,1,1,0,1,0,0,1,1]), .inLoop (csub (cd Try.f4) [1,1,1,1,1,0,1,0,0]), .inBlock 0, .code (csub (cd Try.f4) [1,1,1,1,1,1])] [(3, va), (5, vb), (7, vc), (9, .int .i64 ((k : Nat) : Int)), (10, .int .i64 (((j + 1) : Nat) : Int))] w34 (by kernel_rfl) (.cons o38 (.cons o39 (.cons o40 (.cons o41 (.cons o42 .nil))))) ?_
      exact ih (List.set q j (-1)) (j + 1) _ out (by rw [List.length_set]; exact hql) (by rw [List.length_set]; omega) (hM37.cast (by rw [List.length_set])) (by rw [List.length_set]; omega)
    ·
      have h7p : ¬ (((j : Nat) : Int) < (((List.length q) : Nat) : Int)) := of_decide_eq_false h7
      obtain ⟨p8, hp9, hq10⟩ := rd_at (i := ((k : Nat) : Int)) sT22 (hM.rd 3 rfl) k (by omega) (by first | omega | ((try dsimp only); omega))
      have o20 : (Instr.indexAt 22 (va) (.int .i64 ((k : Nat) : Int))).run Try.prog w = .ok (.pointer (some p8)) w := hq10 _ _
      have o21 : (Instr.loadAt 38 (.pointer (some (Addr.add p8 1)))).run Try.prog w = .ok ((Ya k)) w := c_load pE38 (hM.rd 3 rfl) (Cel.add (At.cel hp9) 1) (p_at1 (by first | omega | ((try dsimp only); omega)))
      obtain ⟨v11, w12, hr13, hM14⟩ := m_lit sT38 hM (n := 3) (parts := #[(0, .int .i64 (-1)), (1, .int .i64 (-1)), (2, .int .i64 (-1))]) (cs := [.int .i64 (-1), .int .i64 (-1), .int .i64 (-1)]) (by decide) (by kernel_rfl) rfl
      have o22 : (Instr.buildSlice 38 3 #[(0, .int .i64 (-1)), (1, .int .i64 (-1)), (2, .int .i64 (-1))]).run Try.prog w = .ok v11 w12 := hr13
      obtain ⟨v15, w16, hr17, hM18⟩ := m_append sT38 hM14 1 rfl (hM14.rd 0 rfl) (by intro u hu; simp at hu; rcases hu with rfl | rfl | rfl <;> rfl) (by first | omega | (simp only [List.length_append, List.length_cons, List.length_nil]; omega)) (by first | omega | (simp only [List.length_append, List.length_cons, List.length_nil]; omega)) 38
      have hM19 : Mem [] w0 w16 (⟨3, 1, v11, 3, [.int .i64 (-1), .int .i64 (-1), .int .i64 (-1)]⟩ :: ⟨3, 1, v15, (List.length (q ++ ([(-1), (-1), (-1)] : List Int))), (ivals .i64 (q ++ ([(-1), (-1), (-1)] : List Int)))⟩ :: ⟨40, 2, vc, (List.length ((readX s).1)), (pcells ((readX s).1) Yc)⟩ :: ⟨40, 2, vb, (List.length ((readX s).1)), (pcells ((readX s).1) Yb)⟩ :: ⟨40, 2, va, (List.length ((readX s).1)), (pcells ((readX s).1) Ya)⟩ :: (((atR 3 Yc ((readX s).1) 0 (List.length ((readX s).1))) ++ (atR 3 Yb ((readX s).1) 0 (List.length ((readX s).1)))) ++ (atR 3 Ya ((readX s).1) (k + 1) (List.length ((readX s).1) - (k + 1))))) := hM18.cast (by simp [ivals, svals, bvals, nvals, u8s, Nat.add_assoc])
      have o23 : (Builtin.append_ #[38, 38] 38 #[(Ya k), v11]).run Try.prog w12 = .ok v15 w16 := hr17
      have o24 : (Builtin.len_ #[38] 3 #[v15]).run Try.prog w16 = .ok (.int .i64 (((List.length (q ++ ([(-1), (-1), (-1)] : List Int))) : Nat) : Int)) w16 := f_slen sT38 (hM19.rd 1 rfl) 3 _
      have hM25 : Mem [] w0 w16 (⟨40, 2, vc, (List.length ((readX s).1)), (pcells ((readX s).1) Yc)⟩ :: ⟨40, 2, vb, (List.length ((readX s).1)), (pcells ((readX s).1) Yb)⟩ :: ⟨40, 2, va, (List.length ((readX s).1)), (pcells ((readX s).1) Ya)⟩ :: (((atR 3 Yc ((readX s).1) 0 (List.length ((readX s).1))) ++ (atR 3 Yb ((readX s).1) 0 (List.length ((readX s).1)))) ++ (atR 3 Ya ((readX s).1) (k + 1) (List.length ((readX s).1) - (k + 1))))) := hM19.sub (List.Sublist.cons _ (List.Sublist.cons _ (List.Sublist.cons_cons _ (List.Sublist.cons_cons _ (List.Sublist.cons_cons _ (List.Sublist.refl _))))))
      refine GoS.run [3, 5, 7, 9, 72] [.n, .n, .n, .n, .n, .h (.pointer (some p8)), .n, .h ((Ya k)), .u (v11) (w12), .u (v15) (w16), .n, .n, .n, .n, .n, .h (.int .i64 (((List.length (q ++ ([(-1), (-1), (-1)] : List Int))) : Nat) : Int)), .n, .n] _ [.code (csub (cd Try.f4) [1,1,1,1,1,0,1,0,0,1,0,0,1,1,1]), .inBlock 1, .code (csub (cd Try.f4) [1,1,1,1,1,0,1,0,0,1,1]), .inLoop (csub (cd Try.f4) [1,1,1,1,1,0,1,0,0]), .inBlock 0, .code (csub (cd Try.f4) [1,1,1,1,1,1])] [(3, va), (5, vb), (7, vc), (9, .int .i64 ((k : Nat) : Int)), (72, .bool (decide ((((List.length (q ++ ([(-1), (-1), (-1)] : List Int))) : Nat) : Int) < 3)))] w16 (by kernel_rfl) (.cons o20 (.cons o21 (.cons o22 (.cons o23 (.cons o24 .nil))))) ?_
      refine GoS.cond (decide ((((List.length (q ++ ([(-1), (-1), (-1)] : List Int))) : Nat) : Int) < 3)) [.code (csub (cd Try.f4) [1,1,1,1,1,0,1,0,0,1,0,0,1,1,1,0]), .inBlock 1, .code (csub (cd Try.f4) [1,1,1,1,1,0,1,0,0,1,1]), .inLoop (csub (cd Try.f4) [1,1,1,1,1,0,1,0,0]), .inBlock 0, .code (csub (cd Try.f4) [1,1,1,1,1,1])] [.code (csub (cd Try.f4) [1,1,1,1,1,0,1,0,0,1,0,0,1,1,1,1]), .inBlock 1, .code (csub (cd Try.f4) [1,1,1,1,1,0,1,0,0,1,1]), .inLoop (csub (cd Try.f4) [1,1,1,1,1,0,1,0,0]), .inBlock 0, .code (csub (cd Try.f4) [1,1,1,1,1,1])] (by kernel_rfl) (fun h26 => ?_) (fun h26 => ?_)
      ·
        have q1 := of_decide_eq_true h26
        simp only [List.length_append, List.length_cons, List.length_nil] at q1
        omega
      ·
        have h26p : ¬ ((((List.length (q ++ ([(-1), (-1), (-1)] : List Int))) : Nat) : Int) < 3) := of_decide_eq_false h26
        refine GoS.run [3, 5, 7, 9] [.n] _ [.inBlock 1, .code (csub (cd Try.f4) [1,1,1,1,1,0,1,0,0,1,1]), .inLoop (csub (cd Try.f4) [1,1,1,1,1,0,1,0,0]), .inBlock 0, .code (csub (cd Try.f4) [1,1,1,1,1,1])] [(3, va), (5, vb), (7, vc), (9, .int .i64 ((k : Nat) : Int))] w16 (by kernel_rfl) .nil ?_
        have o27 : (binOp .add 3 (.int .i64 ((k : Nat) : Int)) (.int .i64 1)).run Try.prog w16 = .ok (.int .i64 (((k + 1) : Nat) : Int)) w16 := f_add (by rw [show ((k : Nat) : Int) + 1 = (((k + 1) : Nat) : Int) by omega]; exact IntWalk.i64_in _ (by omega))
        refine GoS.run [3, 5, 7, 9] [.n, .n, .n, .h (.int .i64 (((k + 1) : Nat) : Int)), .n, .n, .n] _ [.code (csub (cd Try.f4) [1,1,1,1,1,0,1,0,0]), .inLoop (csub (cd Try.f4) [1,1,1,1,1,0,1,0,0]), .inBlock 0, .code (csub (cd Try.f4) [1,1,1,1,1,1])] [(3, va), (5, vb), (7, vc), (9, .int .i64 (((k + 1) : Nat) : Int))] w16 (by kernel_rfl) (.cons o27 .nil) ?_
        exact out _ (hM25.sub (List.Sublist.cons_cons _ (List.Sublist.cons_cons _ (List.Sublist.cons_cons _ (List.Sublist.refl _)))))

set_option maxHeartbeats 400000 in
theorem lreads_L (s : List UInt8) {w0 : World} (hs : s.length ≤ 1048576) (R : Ending → World → Prop) (hR : R = (fun e w' => e = .returned (.bool true) ∧ Below w0.heap.size w0 w')) : ∀ (N : Nat) (vc : Value) (Yc : Nat → Value) (vb : Value) (Yb : Nat → Value) (va : Value) (Ya : Nat → Value) (k : Nat) (w : World) (hk : k ≤ (readX s).1.length) (hM : Mem [] w0 w (⟨40, 2, vc, (List.length ((readX s).1)), (pcells ((readX s).1) Yc)⟩ :: ⟨40, 2, vb, (List.length ((readX s).1)), (pcells ((readX s).1) Yb)⟩ :: ⟨40, 2, va, (List.length ((readX s).1)), (pcells ((readX s).1) Ya)⟩ :: (((atR 3 Yc ((readX s).1) 0 (List.length ((readX s).1))) ++ (atR 3 Yb ((readX s).1) 0 (List.length ((readX s).1)))) ++ (atR 3 Ya ((readX s).1) k (List.length ((readX s).1) - k))))) (hN : (readX s).1.length - k < N), GoS Try.prog 4 R 76 [.code (csub (cd Try.f4) [1,1,1,1,1,0,1,0,0]), .inLoop (csub (cd Try.f4) [1,1,1,1,1,0,1,0,0]), .inBlock 0, .code (csub (cd Try.f4) [1,1,1,1,1,1])] [(3, va), (5, vb), (7, vc), (9, .int .i64 ((k : Nat) : Int))] w := by
  intro N
  induction N with
  | zero => intro vc Yc vb Yb va Ya k w hk hM hN; exact absurd hN (Nat.not_lt_zero _)
  | succ N ih =>
    intro vc Yc vb Yb va Ya k w hk hM hN
    have hsm := readX_small s
    have hsl := hsm.1
    have hsi := hsm.2 k
    have o1 : (Builtin.len_ #[22] 3 #[va]).run Try.prog w = .ok (.int .i64 (((List.length ((readX s).1)) : Nat) : Int)) w := f_slen sT22 (hM.rd 2 rfl) 3 _
    refine GoS.run [3, 5, 7, 9, 43] [.n, .n, .n, .n, .n, .h (.int .i64 (((List.length ((readX s).1)) : Nat) : Int)), .n, .n] _ [.code (csub (cd Try.f4) [1,1,1,1,1,0,1,0,0,0,1]), .code (csub (cd Try.f4) [1,1,1,1,1,0,1,0,0,1]), .inLoop (csub (cd Try.f4) [1,1,1,1,1,0,1,0,0]), .inBlock 0, .code (csub (cd Try.f4) [1,1,1,1,1,1])] [(3, va), (5, vb), (7, vc), (9, .int .i64 ((k : Nat) : Int)), (43, .bool (decide (((k : Nat) : Int) < (((List.length ((readX s).1)) : Nat) : Int))))] w (by kernel_rfl) (.cons o1 .nil) ?_
    refine GoS.cond (decide (((k : Nat) : Int) < (((List.length ((readX s).1)) : Nat) : Int))) [.code (csub (cd Try.f4) [1,1,1,1,1,0,1,0,0,0,1,0]), .code (csub (cd Try.f4) [1,1,1,1,1,0,1,0,0,1]), .inLoop (csub (cd Try.f4) [1,1,1,1,1,0,1,0,0]), .inBlock 0, .code (csub (cd Try.f4) [1,1,1,1,1,1])] [.code (csub (cd Try.f4) [1,1,1,1,1,0,1,0,0,0,1,1]), .code (csub (cd Try.f4) [1,1,1,1,1,0,1,0,0,1]), .inLoop (csub (cd Try.f4) [1,1,1,1,1,0,1,0,0]), .inBlock 0, .code (csub (cd Try.f4) [1,1,1,1,1,1])] (by kernel_rfl) (fun h2 => ?_) (fun h2 => ?_)
    ·
      have h2p : ((k : Nat) : Int) < (((List.length ((readX s).1)) : Nat) : Int) := of_decide_eq_true h2
      refine GoS.run [3, 5, 7, 9] [.n] _ [.code (csub (cd Try.f4) [1,1,1,1,1,0,1,0,0,1]), .inLoop (csub (cd Try.f4) [1,1,1,1,1,0,1,0,0]), .inBlock 0, .code (csub (cd Try.f4) [1,1,1,1,1,1])] [(3, va), (5, vb), (7, vc), (9, .int .i64 ((k : Nat) : Int))] w (by kernel_rfl) .nil ?_
      refine GoS.run [3, 5, 7, 9, 10] [.n, .n, .n, .n, .n, .n, .n, .n, .n] _ [.code (csub (cd Try.f4) [1,1,1,1,1,0,1,0,0,1,0,0,0,1,0,0]), .inLoop (csub (cd Try.f4) [1,1,1,1,1,0,1,0,0,1,0,0,0,1,0,0]), .inBlock 2, .code (csub (cd Try.f4) [1,1,1,1,1,0,1,0,0,1,0,0,1]), .inBlock 1, .code (csub (cd Try.f4) [1,1,1,1,1,0,1,0,0,1,1]), .inLoop (csub (cd Try.f4) [1,1,1,1,1,0,1,0,0]), .inBlock 0, .code (csub (cd Try.f4) [1,1,1,1,1,1])] [(3, va), (5, vb), (7, vc), (9, .int .i64 ((k : Nat) : Int)), (10, .int .i64 0)] w (by kernel_rfl) .nil ?_
      have hM6 := Mem.headOut (A := [⟨40, 2, vc, (List.length ((readX s).1)), (pcells ((readX s).1) Yc)⟩, ⟨40, 2, vb, (List.length ((readX s).1)), (pcells ((readX s).1) Yb)⟩, ⟨40, 2, va, (List.length ((readX s).1)), (pcells ((readX s).1) Ya)⟩]) (B := ((atR 3 Yc ((readX s).1) 0 (List.length ((readX s).1))) ++ (atR 3 Yb ((readX s).1) 0 (List.length ((readX s).1))))) (D := (atR 3 Ya ((readX s).1) k (List.length ((readX s).1) - k))) hM (atR_head (by omega))
      exact lreads_L2 s hs vc Yc vb Yb va Ya k (by omega) R hR (((readX s).1.getD k zp).2.length + 1) ((readX s).1.getD k zp).2 0 w (fun w m => ih vc Yc vb Yb va Ya (k + 1) w (by omega) m (by omega)) rfl (by omega) hM6 (by omega)
    ·
      have h2p : ¬ (((k : Nat) : Int) < (((List.length ((readX s).1)) : Nat) : Int)) := of_decide_eq_false h2
      refine GoS.run [73, 74] [.n, .n, .n, .n, .n] _ [.inRegion (cops (csub (cd Try.f4) [1,1,1,1,1,1,0])) [2,3], .code (csub (cd Try.f4) [1,1,1,1,1,1,1])] [(73, vc), (74, vb)] w (by kernel_rfl) .nil ?_
      refine GoS.call [] 16 #[vc, vb] (some 75) [.inRegion (cops (csub (cd Try.f4) [1,1,1,1,1,1,0])) [3], .code (csub (cd Try.f4) [1,1,1,1,1,1,1])] [] (by kernel_rfl) (same_yes vc ((readX s).1) Yc (hM.rd 0 rfl) (fun j_ hj_ => hM.rdm (List.mem_cons_of_mem _ (List.mem_cons_of_mem _ (List.mem_cons_of_mem _ (List.mem_append_left _ (List.mem_append_left _ (atR_mem (Nat.zero_le _) (by rw [Nat.zero_add]; exact hj_)))))))) vb ((readX s).1) Yb (hM.rd 1 rfl) (fun j_ hj_ => hM.rdm (List.mem_cons_of_mem _ (List.mem_cons_of_mem _ (List.mem_cons_of_mem _ (List.mem_append_left _ (List.mem_append_right _ (atR_mem (Nat.zero_le _) (by rw [Nat.zero_add]; exact hj_)))))))) (rfl)) ?_
      rintro _ w3 ⟨rfl, m4⟩
      refine ⟨_, rfl, ?_⟩
      have hM5 := Mem.join hM m4
      refine GoS.run [2] [.n, .n] _ [.code (csub (cd Try.f4) [1,1,1,1,1,1,1])] [(2, .bool true)] w3 (by kernel_rfl) .nil ?_
      refine GoS.ret (fn := Try.f4) (v := (.bool true)) Try.func4 (by kernel_rfl) ?_
      rw [hR]
      exact ⟨rfl, (hM5.sub (List.nil_sublist _)).below⟩

set_option maxHeartbeats 400000 in
theorem lreads_c (s : List UInt8) (hs : s.length ≤ 1048576) (w : World) :
    Calls Try.prog 4 #[.string (sb s)] w (fun e w' => e = .returned (.bool true) ∧ Below w.heap.size w w') := by
  obtain ⟨R, hR⟩ : ∃ R : Ending → World → Prop, R = (fun e w' => e = .returned (.bool true) ∧ Below w.heap.size w w') := ⟨_, rfl⟩
  rw [← hR]
  refine GoS.enter (n := 76) Try.func4 (by kernel_rfl) rfl [(0, .string (sb s))] (by kernel_rfl) (by kernel_rfl) ?_
  have hM0 := Mem.start w
  refine GoS.run [0, 13] [.n, .n, .n, .n, .n, .n, .n] _ [.inRegion (cops (csub (cd Try.f4) [1,0])) [1,2,3,4,5,6], .code (csub (cd Try.f4) [1,1])] [(0, .string (sb s)), (13, .string (sb s))] w (by kernel_rfl) .nil ?_
  refine GoS.call [0] 17 #[.string (sb s)] (some 14) [.inRegion (cops (csub (cd Try.f4) [1,0])) [2,3,4,5,6], .code (csub (cd Try.f4) [1,1])] [(0, .string (sb s))] (by kernel_rfl) (pread_c s (by omega) w) ?_
  rintro _ w1 ⟨v3, Y4, rfl, m2⟩
  refine ⟨_, rfl, ?_⟩
  have hM5 := Mem.join hM0 m2
  have hM6 : Mem [] w w1 (⟨40, 2, v3, (List.length ((readX s).1)), (pcells ((readX s).1) Y4)⟩ :: (atR 3 Y4 ((readX s).1) 0 (List.length ((readX s).1)))) := Mem.swapT (A := [⟨40, 2, v3, (List.length ((readX s).1)), (pcells ((readX s).1) Y4)⟩]) (B := (atR 3 Y4 ((readX s).1) 0 (List.length ((readX s).1)))) (C := []) hM5
  refine GoS.run [0, 3, 4, 18] [.n, .n, .n, .n, .n, .n, .n, .n, .n] _ [.inRegion (cops (csub (cd Try.f4) [1,1,0])) [1,2,3,4,5,6], .code (csub (cd Try.f4) [1,1,1])] [(0, .string (sb s)), (3, v3), (4, .int .i64 ((readX s).2)), (18, .string (sb s))] w1 (by kernel_rfl) .nil ?_
  refine GoS.call [0, 3, 4] 18 #[.string (sb s)] (some 19) [.inRegion (cops (csub (cd Try.f4) [1,1,0])) [2,3,4,5,6], .code (csub (cd Try.f4) [1,1,1])] [(0, .string (sb s)), (3, v3), (4, .int .i64 ((readX s).2))] (by kernel_rfl) (rpread_c s (by omega) w1) ?_
  rintro _ w7 ⟨v9, Y10, rfl, m8⟩
  refine ⟨_, rfl, ?_⟩
  have hM11 := Mem.join hM6 m8
  have hM12 : Mem [] w w7 (⟨40, 2, v9, (List.length ((readX s).1)), (pcells ((readX s).1) Y10)⟩ :: ⟨40, 2, v3, (List.length ((readX s).1)), (pcells ((readX s).1) Y4)⟩ :: ((atR 3 Y4 ((readX s).1) 0 (List.length ((readX s).1))) ++ (atR 3 Y10 ((readX s).1) 0 (List.length ((readX s).1))))) := Mem.swapT (A := [⟨40, 2, v9, (List.length ((readX s).1)), (pcells ((readX s).1) Y10)⟩]) (B := (atR 3 Y10 ((readX s).1) 0 (List.length ((readX s).1)))) (C := (⟨40, 2, v3, (List.length ((readX s).1)), (pcells ((readX s).1) Y4)⟩ :: (atR 3 Y4 ((readX s).1) 0 (List.length ((readX s).1))))) hM11
  refine GoS.run [3, 4, 5, 6, 23] [.n, .n, .n, .n, .n, .n, .n, .n, .n] _ [.inRegion (cops (csub (cd Try.f4) [1,1,1,0])) [1,2,3,4,5,6], .code (csub (cd Try.f4) [1,1,1,1])] [(3, v3), (4, .int .i64 ((readX s).2)), (5, v9), (6, .int .i64 ((readX s).2)), (23, .string (sb s))] w7 (by kernel_rfl) .nil ?_
  refine GoS.call [3, 4, 5, 6] 17 #[.string (sb s)] (some 24) [.inRegion (cops (csub (cd Try.f4) [1,1,1,0])) [2,3,4,5,6], .code (csub (cd Try.f4) [1,1,1,1])] [(3, v3), (4, .int .i64 ((readX s).2)), (5, v9), (6, .int .i64 ((readX s).2))] (by kernel_rfl) (pread_c s (by omega) w7) ?_
  rintro _ w13 ⟨v15, Y16, rfl, m14⟩
  refine ⟨_, rfl, ?_⟩
  have hM17 := Mem.join hM12 m14
  have hM18 : Mem [] w w13 (⟨40, 2, v15, (List.length ((readX s).1)), (pcells ((readX s).1) Y16)⟩ :: ⟨40, 2, v9, (List.length ((readX s).1)), (pcells ((readX s).1) Y10)⟩ :: ⟨40, 2, v3, (List.length ((readX s).1)), (pcells ((readX s).1) Y4)⟩ :: (((atR 3 Y4 ((readX s).1) 0 (List.length ((readX s).1))) ++ (atR 3 Y10 ((readX s).1) 0 (List.length ((readX s).1)))) ++ (atR 3 Y16 ((readX s).1) 0 (List.length ((readX s).1))))) := Mem.swapT (A := [⟨40, 2, v15, (List.length ((readX s).1)), (pcells ((readX s).1) Y16)⟩]) (B := (atR 3 Y16 ((readX s).1) 0 (List.length ((readX s).1)))) (C := (⟨40, 2, v9, (List.length ((readX s).1)), (pcells ((readX s).1) Y10)⟩ :: ⟨40, 2, v3, (List.length ((readX s).1)), (pcells ((readX s).1) Y4)⟩ :: ((atR 3 Y4 ((readX s).1) 0 (List.length ((readX s).1))) ++ (atR 3 Y10 ((readX s).1) 0 (List.length ((readX s).1)))))) hM17
  refine GoS.run [3, 4, 5, 6, 7] [.n, .n, .n, .n, .n, .n, .n, .n, .n] _ [.inRegion (cops (csub (cd Try.f4) [1,1,1,1,0,0])) [0,1,2,3,4,5,6,7,8,9,10,11,12], .code (csub (cd Try.f4) [1,1,1,1,0,1]), .code (csub (cd Try.f4) [1,1,1,1,1])] [(3, v3), (4, .int .i64 ((readX s).2)), (5, v9), (6, .int .i64 ((readX s).2)), (7, v15)] w13 (by kernel_rfl) .nil ?_
  refine GoS.call [3, 4, 5, 6, 7] 13 #[] (some 27) [.inRegion (cops (csub (cd Try.f4) [1,1,1,1,0,0])) [1,2,3,4,5,6,7,8,9,10,11,12], .code (csub (cd Try.f4) [1,1,1,1,0,1]), .code (csub (cd Try.f4) [1,1,1,1,1])] [(3, v3), (4, .int .i64 ((readX s).2)), (5, v9), (6, .int .i64 ((readX s).2)), (7, v15)] (by kernel_rfl) (awake_c w13) ?_
  rintro _ w19 ⟨rfl, m20⟩
  refine ⟨_, rfl, ?_⟩
  have hM21 := Mem.join hM18 m20
  have o22 : (IntKind.i64 = IntKind.i64) ∧ w19 = w19 ∧ Value.bool false = .bool ((readX s).2 != (readX s).2) := ⟨rfl, rfl, congrArg Value.bool (Eq.symm (bne_self_eq_false _))⟩
  refine GoS.run [3, 5, 7, 34, 35, 36] [.n, .n, .n, .n, .h (.bool false), .n, .n, .n, .n] _ [.inRegion (cops (csub (cd Try.f4) [1,1,1,1,0,0])) [10,11,12], .code (csub (cd Try.f4) [1,1,1,1,0,1]), .code (csub (cd Try.f4) [1,1,1,1,1])] [(3, v3), (5, v9), (7, v15), (34, .bool false), (35, v3), (36, v9)] w19 (by kernel_rfl) (.cons o22 .nil) ?_
  refine GoS.call [3, 5, 7, 34] 16 #[v3, v9] (some 37) [.inRegion (cops (csub (cd Try.f4) [1,1,1,1,0,0])) [11,12], .code (csub (cd Try.f4) [1,1,1,1,0,1]), .code (csub (cd Try.f4) [1,1,1,1,1])] [(3, v3), (5, v9), (7, v15), (34, .bool false)] (by kernel_rfl) (same_yes v3 ((readX s).1) Y4 (hM21.rd 2 rfl) (fun j_ hj_ => hM21.rdm (List.mem_cons_of_mem _ (List.mem_cons_of_mem _ (List.mem_cons_of_mem _ (List.mem_append_left _ (List.mem_append_left _ (atR_mem (Nat.zero_le _) (by rw [Nat.zero_add]; exact hj_)))))))) v9 ((readX s).1) Y10 (hM21.rd 1 rfl) (fun j_ hj_ => hM21.rdm (List.mem_cons_of_mem _ (List.mem_cons_of_mem _ (List.mem_cons_of_mem _ (List.mem_append_left _ (List.mem_append_right _ (atR_mem (Nat.zero_le _) (by rw [Nat.zero_add]; exact hj_)))))))) (rfl)) ?_
  rintro _ w23 ⟨rfl, m24⟩
  refine ⟨_, rfl, ?_⟩
  have hM25 := Mem.join hM21 m24
  refine GoS.run [3, 5, 7, 9] [.n, .n, .n, .n, .n, .n, .n, .n, .n, .n, .n, .n] _ [.code (csub (cd Try.f4) [1,1,1,1,1,0,1,0,0]), .inLoop (csub (cd Try.f4) [1,1,1,1,1,0,1,0,0]), .inBlock 0, .code (csub (cd Try.f4) [1,1,1,1,1,1])] [(3, v3), (5, v9), (7, v15), (9, .int .i64 0)] w23 (by kernel_rfl) .nil ?_
  exact lreads_L s hs R hR ((readX s).1.length + 1) v15 Y16 v9 Y10 v3 Y4 0 w23 (by omega) (hM25.perm (List.Perm.append_left [_, _, _] (by rw [Nat.sub_zero]; exact perm3 _ _ _))) (by omega)


end Go.Proofs.Ythimiheeheaaaaa
