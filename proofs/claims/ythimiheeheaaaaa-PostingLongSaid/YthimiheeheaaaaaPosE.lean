/-
  The walk of Pack.
-/
import Derived.Test.YthimiheeheaaaaaPosA
import Derived.Test.YthimiheeheaaaaaPackB
import Derived.Test.YthimiheeheaaaaaPackE
import Derived.Test.YthimiheeheaaaaaPackL
namespace Go.Proofs.Ythimiheeheaaaaa
open Go Go.Gw Go.NumP Go.LiveP Go.PackP Go.PostP Go.RowKit
set_option linter.unusedVariables false
set_option linter.unusedSimpArgs false

theorem sT54 : SliceT Try.prog 54 38 1 24 (.slice none 0 0) := ⟨by kernel_rfl, ⟨_, rfl, by kernel_rfl, by kernel_rfl, by kernel_rfl⟩, rfl, by decide⟩

set_option maxHeartbeats 2000000 in
theorem ppack_L {w0 : World} (u : Value) (L : PS) (X : Nat → Value) (hu : Rd w0 2 u L.length (pcells L X)) (hX : ∀ j, j < L.length → Rd w0 1 (X j) (L.getD j zp).2.length (ivals .i64 (L.getD j zp).2)) (hc : ckP (-1) L = 0) (R : Ending → World → Prop) (hR : R = (fun e w' => e = .returned (.tuple #[.string (sb (packP L)), .int .i64 (ckP (-1) L)]) ∧ Mem [] w0 w' [])) : ∀ (N : Nat) (k : Nat) (vd vt vp : Value) (w : World) (hk : k ≤ L.length) (hM : Mem [] w0 w [⟨3, 1, vd, (List.length (dcs (List.take k L))), (ivals .i64 (dcs (List.take k L)))⟩, ⟨3, 1, vt, (List.length (tms (List.take k L))), (ivals .i64 (tms (List.take k L)))⟩, ⟨3, 1, vp, (List.length (pls (List.take k L))), (ivals .i64 (pls (List.take k L)))⟩]) (hN : L.length - k < N), GoS Try.prog 11 R 63 [.code (csub (cd Try.f11) [1,1,1,0,1,0,0]), .inLoop (csub (cd Try.f11) [1,1,1,0,1,0,0]), .inBlock 0, .code (csub (cd Try.f11) [1,1,1,1])] [(5, vd), (6, vt), (7, vp), (20, u), (21, .int .i64 (((List.length L) : Nat) : Int)), (22, .int .i64 ((k : Nat) : Int))] w := by
  intro N
  induction N with
  | zero => intro k vd vt vp w hk hM hN; exact absurd hN (Nat.not_lt_zero _)
  | succ N ih =>
    intro k vd vt vp w hk hM hN
    have hLl := rd_len hu
    simp only [maxLen] at hLl
    have hok := ckP_ok L (-1) hc (by omega) (by omega)
    have hol := hok.1
    have h46 : ∀ p ∈ L, p.2.length ≤ 4096 := fun p hp => (hok.2 p hp).2.2.2.1
    have hpb := packB_len hc
    have hpt := pls_take h46 k
    have hkl : (List.take k L).length ≤ k := by rw [List.length_take]; omega
    have hdl := dcs_len (List.take k L)
    have htl := tms_len (List.take k L)
    have ha46 : k < L.length → (List.getD L k zp).2.length ≤ 4096 := fun h => h46 _ (mem_at h)
    have hq1 : k = L.length → List.take k L = L := fun h => by rw [h, List.take_length]
    have hpd : k = L.length → (packT (deltas (dcs (List.take k L)))).length ≤ 1000000000 := fun h => by rw [hq1 h]; exact hpb.1
    have hpt2 : k = L.length → (packT (tms (List.take k L))).length ≤ 1000000000 := fun h => by rw [hq1 h]; exact hpb.2.1
    have hpp2 : k = L.length → (packT (pls (List.take k L))).length ≤ 100000000000 := fun h => by rw [hq1 h]; exact hpb.2.2
    refine GoS.run [5, 6, 7, 20, 21, 22, 23] [.n, .n, .n, .n, .n] _ [.code (csub (cd Try.f11) [1,1,1,0,1,0,0,1,0]), .code (csub (cd Try.f11) [1,1,1,0,1,0,0,1,1]), .inLoop (csub (cd Try.f11) [1,1,1,0,1,0,0]), .inBlock 0, .code (csub (cd Try.f11) [1,1,1,1])] [(5, vd), (6, vt), (7, vp), (20, u), (21, .int .i64 (((List.length L) : Nat) : Int)), (22, .int .i64 ((k : Nat) : Int)), (23, .bool (decide (((k : Nat) : Int) < (((List.length L) : Nat) : Int))))] w (by kernel_rfl) .nil ?_
    refine GoS.cond (decide (((k : Nat) : Int) < (((List.length L) : Nat) : Int))) [.code (csub (cd Try.f11) [1,1,1,0,1,0,0,1,0,0]), .code (csub (cd Try.f11) [1,1,1,0,1,0,0,1,1]), .inLoop (csub (cd Try.f11) [1,1,1,0,1,0,0]), .inBlock 0, .code (csub (cd Try.f11) [1,1,1,1])] [.code (csub (cd Try.f11) [1,1,1,0,1,0,0,1,0,1]), .code (csub (cd Try.f11) [1,1,1,0,1,0,0,1,1]), .inLoop (csub (cd Try.f11) [1,1,1,0,1,0,0]), .inBlock 0, .code (csub (cd Try.f11) [1,1,1,1])] (by kernel_rfl) (fun h1 => ?_) (fun h1 => ?_)
    ·
      have h1p : ((k : Nat) : Int) < (((List.length L) : Nat) : Int) := of_decide_eq_true h1
      refine GoS.run [5, 6, 7, 20, 21, 22] [.n] _ [.code (csub (cd Try.f11) [1,1,1,0,1,0,0,1,1]), .inLoop (csub (cd Try.f11) [1,1,1,0,1,0,0]), .inBlock 0, .code (csub (cd Try.f11) [1,1,1,1])] [(5, vd), (6, vt), (7, vp), (20, u), (21, .int .i64 (((List.length L) : Nat) : Int)), (22, .int .i64 ((k : Nat) : Int))] w (by kernel_rfl) .nil ?_
      obtain ⟨p42, hp43, hq44⟩ := rd_at (i := ((k : Nat) : Int)) sT22 (hu.kept0 hM.kept) k (by omega) (by first | omega | (dsimp only; omega))
      have o72 : (Instr.indexAt 22 (u) (.int .i64 ((k : Nat) : Int))).run Try.prog w = .ok (.pointer (some p42)) w := hq44 _ _
      have o73 : (Instr.loadAt 40 (.pointer (some p42))).run Try.prog w = .ok (.agg #[.int .i64 ((List.getD L k zp).1), (X k)]) w := p_loads aE40 (hu.kept0 hM.kept) hp43 (by first | omega | (dsimp only; omega))
      obtain ⟨b45, w46, hr47, hM48⟩ := m_alloc oT40 hM
      have hM49 : Mem [] w0 w46 [⟨40, 2, (obj b45), 1, [.int .i64 0, .slice none 0 0]⟩, ⟨3, 1, vd, (List.length (dcs (List.take k L))), (ivals .i64 (dcs (List.take k L)))⟩, ⟨3, 1, vt, (List.length (tms (List.take k L))), (ivals .i64 (tms (List.take k L)))⟩, ⟨3, 1, vp, (List.length (pls (List.take k L))), (ivals .i64 (pls (List.take k L)))⟩] := hM48
      have o74 : (Instr.alloc 40 true (.tuple #[])).run Try.prog w = .ok (.pointer (some (⟨b45, 0, none⟩))) w46 := hr47
      obtain ⟨w50, hr51, hM52⟩ := c_stores (ys := [.int .i64 ((List.getD L k zp).1), (X k)]) aE40 hM49 0 rfl (cel_obj b45 0) rfl (by decide) (by intro u hu; simp at hu; rcases hu with rfl | rfl <;> first | rfl | exact (rd_one ((hX k (by omega)).kept0 hM49.kept)))
      have hM53 : Mem [] w0 w50 [⟨40, 2, (obj b45), 1, [.int .i64 ((List.getD L k zp).1), (X k)]⟩, ⟨3, 1, vd, (List.length (dcs (List.take k L))), (ivals .i64 (dcs (List.take k L)))⟩, ⟨3, 1, vt, (List.length (tms (List.take k L))), (ivals .i64 (tms (List.take k L)))⟩, ⟨3, 1, vp, (List.length (pls (List.take k L))), (ivals .i64 (pls (List.take k L)))⟩] := hM52
      have o75 : (Instr.storeAt 40 (.pointer (some (⟨b45, 0, none⟩))) (.agg #[.int .i64 ((List.getD L k zp).1), (X k)])).run Try.prog w46 = .ok () w50 ∧ undef = undef := ⟨hr51, rfl⟩
      have o76 : (Instr.loadAt 3 (.pointer (some (⟨b45, 0, none⟩)))).run Try.prog w50 = .ok (.int .i64 ((List.getD L k zp).1)) w50 := c_load pE3 (hM53.rd 0 rfl) (cel_obj b45 0) rfl
      obtain ⟨v54, w55, hr56, hM57⟩ := m_lit sT38 hM53 (n := 1) (parts := #[(0, .int .i64 ((List.getD L k zp).1))]) (cs := [.int .i64 ((List.getD L k zp).1)]) (by decide) (by kernel_rfl) rfl
      have o77 : (Instr.buildSlice 38 1 #[(0, .int .i64 ((List.getD L k zp).1))]).run Try.prog w50 = .ok v54 w55 := hr56
      obtain ⟨v58, w59, hr60, hM61⟩ := m_append sT38 hM57 2 rfl (hM57.rd 0 rfl) (by intro u hu; simp at hu; rcases hu with rfl <;> rfl) (by first | omega | (simp only [deltas_len, List.length_cons, List.length_nil]; omega)) (by first | omega | (simp only [deltas_len, List.length_cons, List.length_nil]; omega)) 38
      have hM62 : Mem [] w0 w59 [⟨3, 1, v54, 1, [.int .i64 ((List.getD L k zp).1)]⟩, ⟨40, 2, (obj b45), 1, [.int .i64 ((List.getD L k zp).1), (X k)]⟩, ⟨3, 1, v58, (List.length ((dcs (List.take k L)) ++ ([(List.getD L k zp).1] : List Int))), (ivals .i64 ((dcs (List.take k L)) ++ ([(List.getD L k zp).1] : List Int)))⟩, ⟨3, 1, vt, (List.length (tms (List.take k L))), (ivals .i64 (tms (List.take k L)))⟩, ⟨3, 1, vp, (List.length (pls (List.take k L))), (ivals .i64 (pls (List.take k L)))⟩] := hM61.cast (by simp [ivals, svals, bvals, nvals, u8s, Nat.add_assoc])
      have o78 : (Builtin.append_ #[38, 38] 38 #[vd, v54]).run Try.prog w55 = .ok v58 w59 := hr60
      have o79 : (Instr.loadAt 38 (.pointer (some (⟨b45, 1, none⟩)))).run Try.prog w59 = .ok ((X k)) w59 := c_load pE38 (hM62.rd 1 rfl) (cel_obj b45 1) rfl
      have o80 : (Builtin.len_ #[38] 3 #[(X k)]).run Try.prog w59 = .ok (.int .i64 (((List.length ((List.getD L k zp).2)) : Nat) : Int)) w59 := f_slen sT38 ((hX k (by omega)).kept0 hM62.kept) 3 _
      obtain ⟨v63, w64, hr65, hM66⟩ := m_lit sT38 hM62 (n := 1) (parts := #[(0, .int .i64 (((List.length ((List.getD L k zp).2)) : Nat) : Int))]) (cs := [.int .i64 (((List.length ((List.getD L k zp).2)) : Nat) : Int)]) (by decide) (by kernel_rfl) rfl
      have o81 : (Instr.buildSlice 38 1 #[(0, .int .i64 (((List.length ((List.getD L k zp).2)) : Nat) : Int))]).run Try.prog w59 = .ok v63 w64 := hr65
      obtain ⟨v67, w68, hr69, hM70⟩ := m_append sT38 hM66 4 rfl (hM66.rd 0 rfl) (by intro u hu; simp at hu; rcases hu with rfl <;> rfl) (by first | omega | (simp only [deltas_len, List.length_cons, List.length_nil]; omega)) (by first | omega | (simp only [deltas_len, List.length_cons, List.length_nil]; omega)) 38
      have hM71 : Mem [] w0 w68 [⟨3, 1, v63, 1, [.int .i64 (((List.length ((List.getD L k zp).2)) : Nat) : Int)]⟩, ⟨3, 1, v54, 1, [.int .i64 ((List.getD L k zp).1)]⟩, ⟨40, 2, (obj b45), 1, [.int .i64 ((List.getD L k zp).1), (X k)]⟩, ⟨3, 1, v58, (List.length ((dcs (List.take k L)) ++ ([(List.getD L k zp).1] : List Int))), (ivals .i64 ((dcs (List.take k L)) ++ ([(List.getD L k zp).1] : List Int)))⟩, ⟨3, 1, v67, (List.length ((tms (List.take k L)) ++ ([(((List.length ((List.getD L k zp).2)) : Nat) : Int)] : List Int))), (ivals .i64 ((tms (List.take k L)) ++ ([(((List.length ((List.getD L k zp).2)) : Nat) : Int)] : List Int)))⟩, ⟨3, 1, vp, (List.length (pls (List.take k L))), (ivals .i64 (pls (List.take k L)))⟩] := hM70.cast (by simp [ivals, svals, bvals, nvals, u8s, Nat.add_assoc])
      have o82 : (Builtin.append_ #[38, 38] 38 #[vt, v63]).run Try.prog w64 = .ok v67 w68 := hr69
      have o83 : (Instr.loadAt 38 (.pointer (some (⟨b45, 1, none⟩)))).run Try.prog w68 = .ok ((X k)) w68 := c_load pE38 (hM71.rd 2 rfl) (cel_obj b45 1) rfl
      have hM84 : Mem [] w0 w68 [⟨3, 1, v58, (List.length ((dcs (List.take k L)) ++ ([(List.getD L k zp).1] : List Int))), (ivals .i64 ((dcs (List.take k L)) ++ ([(List.getD L k zp).1] : List Int)))⟩, ⟨3, 1, v67, (List.length ((tms (List.take k L)) ++ ([(((List.length ((List.getD L k zp).2)) : Nat) : Int)] : List Int))), (ivals .i64 ((tms (List.take k L)) ++ ([(((List.length ((List.getD L k zp).2)) : Nat) : Int)] : List Int)))⟩, ⟨3, 1, vp, (List.length (pls (List.take k L))), (ivals .i64 (pls (List.take k L)))⟩] := hM71.sub (List.Sublist.cons _ (List.Sublist.cons _ (List.Sublist.cons _ (List.Sublist.cons_cons _ (List.Sublist.cons_cons _ (List.Sublist.cons_cons _ (List.Sublist.refl _)))))))
      refine GoS.run [5, 6, 20, 21, 22, 37, 39] [.n, .n, .n, .n, .h (.pointer (some p42)), .h (.agg #[.int .i64 ((List.getD L k zp).1), (X k)]), .u (.pointer (some (⟨b45, 0, none⟩))) (w46), .u (undef) (w50), .n, .n, .n, .n, .n, .h (.int .i64 ((List.getD L k zp).1)), .u (v54) (w55), .u (v58) (w59), .n, .n, .n, .n, .n, .n, .h ((X k)), .h (.int .i64 (((List.length ((List.getD L k zp).2)) : Nat) : Int)), .u (v63) (w64), .u (v67) (w68), .n, .n, .n, .n, .n, .h ((X k))] _ [.inRegion (cops (csub (cd Try.f11) [1,1,1,0,1,0,0,1,1,0,0,1,1,1])) [3,4,5], .inBlock 1, .code (csub (cd Try.f11) [1,1,1,0,1,0,0,1,1,1]), .inLoop (csub (cd Try.f11) [1,1,1,0,1,0,0]), .inBlock 0, .code (csub (cd Try.f11) [1,1,1,1])] [(5, v58), (6, v67), (20, u), (21, .int .i64 (((List.length L) : Nat) : Int)), (22, .int .i64 ((k : Nat) : Int)), (37, vp), (39, (X k))] w68 (by kernel_rfl) (.cons o72 (.cons o73 (.cons o74 (.cons o75 (.cons o76 (.cons o77 (.cons o78 (.cons o79 (.cons o80 (.cons o81 (.cons o82 (.cons o83 .nil)))))))))))) ?_
      refine GoS.call [5, 6, 20, 21, 22, 37] 25 #[(X k)] (some 40) [.inRegion (cops (csub (cd Try.f11) [1,1,1,0,1,0,0,1,1,0,0,1,1,1])) [4,5], .inBlock 1, .code (csub (cd Try.f11) [1,1,1,0,1,0,0,1,1,1]), .inLoop (csub (cd Try.f11) [1,1,1,0,1,0,0]), .inBlock 0, .code (csub (cd Try.f11) [1,1,1,1])] [(5, v58), (6, v67), (20, u), (21, .int .i64 (((List.length L) : Nat) : Int)), (22, .int .i64 ((k : Nat) : Int)), (37, vp)] (by kernel_rfl) (deltas_c (X k) ((List.getD L k zp).2) w68 ((hX k (by omega)).kept0 hM84.kept) (by first | omega | (rw [deltas_len]; omega))) ?_
      rintro _ w85 ⟨v88, rfl, m86⟩
      refine ⟨_, rfl, ?_⟩
      have hM87 := Mem.join hM84 m86
      have hdl89 := deltas_len ((List.getD L k zp).2)
      obtain ⟨v90, w91, hr92, hM93⟩ := m_append sT38 hM87 3 rfl (hM87.rd 0 rfl) (ivals_one .i64 (deltas ((List.getD L k zp).2))) (by first | omega | (simp only [deltas_len, List.length_cons, List.length_nil]; omega)) (by first | omega | (simp only [deltas_len, List.length_cons, List.length_nil]; omega)) 38
      have hM94 : Mem [] w0 w91 [⟨3, 1, v88, (List.length (deltas ((List.getD L k zp).2))), (ivals .i64 (deltas ((List.getD L k zp).2)))⟩, ⟨3, 1, v58, (List.length ((dcs (List.take k L)) ++ ([(List.getD L k zp).1] : List Int))), (ivals .i64 ((dcs (List.take k L)) ++ ([(List.getD L k zp).1] : List Int)))⟩, ⟨3, 1, v67, (List.length ((tms (List.take k L)) ++ ([(((List.length ((List.getD L k zp).2)) : Nat) : Int)] : List Int))), (ivals .i64 ((tms (List.take k L)) ++ ([(((List.length ((List.getD L k zp).2)) : Nat) : Int)] : List Int)))⟩, ⟨3, 1, v90, (List.length ((pls (List.take k L)) ++ (deltas ((List.getD L k zp).2)))), (ivals .i64 ((pls (List.take k L)) ++ (deltas ((List.getD L k zp).2))))⟩] := hM93.cast (by simp [ivals, svals, bvals, nvals, u8s, Nat.add_assoc])
      have o95 : (Builtin.append_ #[38, 38] 38 #[vp, v88]).run Try.prog w85 = .ok v90 w91 := hr92
      have o96 : (binOp .add 3 (.int .i64 ((k : Nat) : Int)) (.int .i64 1)).run Try.prog w91 = .ok (.int .i64 (((k + 1) : Nat) : Int)) w91 := f_add (by rw [show ((k : Nat) : Int) + 1 = (((k + 1) : Nat) : Int) by omega]; exact IntWalk.i64_in _ (by omega))
      have hM97 : Mem [] w0 w91 [⟨3, 1, v58, (List.length ((dcs (List.take k L)) ++ ([(List.getD L k zp).1] : List Int))), (ivals .i64 ((dcs (List.take k L)) ++ ([(List.getD L k zp).1] : List Int)))⟩, ⟨3, 1, v67, (List.length ((tms (List.take k L)) ++ ([(((List.length ((List.getD L k zp).2)) : Nat) : Int)] : List Int))), (ivals .i64 ((tms (List.take k L)) ++ ([(((List.length ((List.getD L k zp).2)) : Nat) : Int)] : List Int)))⟩, ⟨3, 1, v90, (List.length ((pls (List.take k L)) ++ (deltas ((List.getD L k zp).2)))), (ivals .i64 ((pls (List.take k L)) ++ (deltas ((List.getD L k zp).2))))⟩] := hM94.sub (List.Sublist.cons _ (List.Sublist.cons_cons _ (List.Sublist.cons_cons _ (List.Sublist.cons_cons _ (List.Sublist.refl _)))))
      refine GoS.run [5, 6, 7, 20, 21, 22] [.u (v90) (w91), .n, .n, .n, .n, .h (.int .i64 (((k + 1) : Nat) : Int)), .n, .n, .n] _ [.code (csub (cd Try.f11) [1,1,1,0,1,0,0]), .inLoop (csub (cd Try.f11) [1,1,1,0,1,0,0]), .inBlock 0, .code (csub (cd Try.f11) [1,1,1,1])] [(5, v58), (6, v67), (7, v90), (20, u), (21, .int .i64 (((List.length L) : Nat) : Int)), (22, .int .i64 (((k + 1) : Nat) : Int))] w91 (by kernel_rfl) (.cons o95 (.cons o96 .nil)) ?_
      obtain ⟨e1, e2, e3⟩ := take_ps2 (L := L) (k := k) (by omega)
      exact ih (k + 1) _ _ _ _ (by omega) (hM97.cast (by rw [e1, e2, e3])) (by omega)
    ·
      have h1p : ¬ (((k : Nat) : Int) < (((List.length L) : Nat) : Int)) := of_decide_eq_false h1
      refine GoS.run [6, 7, 10, 43] [.n, .n, .n, .n, .n, .n, .n, .n, .n] _ [.inRegion (cops (csub (cd Try.f11) [1,1,1,1,1,0,0])) [1,2,3,4,5,6], .code (csub (cd Try.f11) [1,1,1,1,1,0,1]), .code (csub (cd Try.f11) [1,1,1,1,1,1])] [(6, vt), (7, vp), (10, .string (sb ([]))), (43, vd)] w (by kernel_rfl) .nil ?_
      refine GoS.call [6, 7, 10] 25 #[vd] (some 44) [.inRegion (cops (csub (cd Try.f11) [1,1,1,1,1,0,0])) [2,3,4,5,6], .code (csub (cd Try.f11) [1,1,1,1,1,0,1]), .code (csub (cd Try.f11) [1,1,1,1,1,1])] [(6, vt), (7, vp), (10, .string (sb ([])))] (by kernel_rfl) (deltas_c vd (dcs (List.take k L)) w (hM.rd 0 rfl) (by first | omega | (rw [deltas_len]; omega))) ?_
      rintro _ w2 ⟨v5, rfl, m3⟩
      refine ⟨_, rfl, ?_⟩
      have hM4 := Mem.join hM m3
      have hdl6 := deltas_len (dcs (List.take k L))
      obtain ⟨v7, w8, hr9, hM10⟩ := m_lit sT54 hM4 (n := 3) (parts := #[(0, v5), (1, vt), (2, vp)]) (cs := [v5, vt, vp]) (by decide) (by obtain ⟨a0_, m0_, c0_, e0_⟩ : ∃ a m c, v5 = Value.slice a m c := rd_form (hM4.rd 0 rfl); rw [e0_]; obtain ⟨a1_, m1_, c1_, e1_⟩ : ∃ a m c, vt = Value.slice a m c := rd_form (hM4.rd 2 rfl); rw [e1_]; obtain ⟨a2_, m2_, c2_, e2_⟩ : ∃ a m c, vp = Value.slice a m c := rd_form (hM4.rd 3 rfl); rw [e2_]; kernel_rfl) rfl
      have o14 : (Instr.buildSlice 54 3 #[(0, v5), (1, vt), (2, vp)]).run Try.prog w2 = .ok v7 w8 := hr9
      have o15 : (Builtin.len_ #[54] 3 #[v7]).run Try.prog w8 = .ok (.int .i64 3) w8 := f_slen sT54 (hM10.rd 0 rfl) 3 _
      obtain ⟨p11, hp12, hq13⟩ := rd_at (i := 0) sT54 (hM10.rd 0 rfl) 0 (by omega) (by first | omega | (dsimp only; omega))
      have o16 : (Instr.indexAt 54 (v7) (.int .i64 0)).run Try.prog w8 = .ok (.pointer (some p11)) w8 := hq13 _ _
      have o17 : (Instr.loadAt 38 (.pointer (some p11))).run Try.prog w8 = .ok (v5) w8 := at_load pE38 (hM10.rd 0 rfl) hp12 rfl
      have hM18 : Mem [] w0 w8 [⟨38, 1, v7, 3, [v5, vt, vp]⟩, ⟨3, 1, v5, (List.length (deltas (dcs (List.take k L)))), (ivals .i64 (deltas (dcs (List.take k L))))⟩, ⟨3, 1, vt, (List.length (tms (List.take k L))), (ivals .i64 (tms (List.take k L)))⟩, ⟨3, 1, vp, (List.length (pls (List.take k L))), (ivals .i64 (pls (List.take k L)))⟩] := hM10.sub (List.Sublist.cons_cons _ (List.Sublist.cons_cons _ (List.Sublist.cons _ (List.Sublist.cons_cons _ (List.Sublist.cons_cons _ (List.Sublist.refl _))))))
      refine GoS.run [10, 47, 48, 49, 54] [.n, .n, .u (v7) (w8), .h (.int .i64 3), .n, .n, .n, .n, .n, .n, .n, .n, .n, .n, .n, .n, .n, .n, .n, .h (.pointer (some p11)), .h (v5), .n, .n, .n, .n, .n] _ [.inRegion (cops (csub (cd Try.f11) [1,1,1,1,1,0,1,0,0,1,1,0,0,1,0])) [1,2,3,4,5,6], .code (csub (cd Try.f11) [1,1,1,1,1,0,1,0,0,1,1,0,0,1,1]), .inBlock 3, .code (csub (cd Try.f11) [1,1,1,1,1,0,1,0,0,1,1,1]), .inLoop (csub (cd Try.f11) [1,1,1,1,1,0,1,0,0]), .inBlock 2, .code (csub (cd Try.f11) [1,1,1,1,1,1])] [(10, .string (sb ([]))), (47, v7), (48, .int .i64 3), (49, .int .i64 0), (54, v5)] w8 (by kernel_rfl) (.cons o14 (.cons o15 (.cons o16 (.cons o17 .nil)))) ?_
      refine GoS.call [10, 47, 48, 49] 26 #[v5] (some 55) [.inRegion (cops (csub (cd Try.f11) [1,1,1,1,1,0,1,0,0,1,1,0,0,1,0])) [2,3,4,5,6], .code (csub (cd Try.f11) [1,1,1,1,1,0,1,0,0,1,1,0,0,1,1]), .inBlock 3, .code (csub (cd Try.f11) [1,1,1,1,1,0,1,0,0,1,1,1]), .inLoop (csub (cd Try.f11) [1,1,1,1,1,0,1,0,0]), .inBlock 2, .code (csub (cd Try.f11) [1,1,1,1,1,1])] [(10, .string (sb ([]))), (47, v7), (48, .int .i64 3), (49, .int .i64 0)] (by kernel_rfl) (pack_c v5 (deltas (dcs (List.take k L))) w8 (hM18.rd 1 rfl) (by exact deltas_hi _) (by first | omega | (rw [deltas_len]; omega))) ?_
      rintro _ w19 ⟨rfl, m20⟩
      refine ⟨_, rfl, ?_⟩
      have hM21 := Mem.join hM18 m20
      have o25 : (binOp .add 9 (.string (sb ([]))) (.string (sb (packT (deltas (dcs (List.take k L))))))).run Try.prog w19 = .ok (.string (sb ([] ++ (packT (deltas (dcs (List.take k L))))))) w19 := f_stradd (by (simp only [List.length_append, List.length_nil]; omega))
      obtain ⟨p22, hp23, hq24⟩ := rd_at (i := 1) sT54 (hM21.rd 0 rfl) 1 (by omega) (by first | omega | (dsimp only; omega))
      have o26 : (Instr.indexAt 54 (v7) (.int .i64 1)).run Try.prog w19 = .ok (.pointer (some p22)) w19 := hq24 _ _
      have o27 : (Instr.loadAt 38 (.pointer (some p22))).run Try.prog w19 = .ok (vt) w19 := at_load pE38 (hM21.rd 0 rfl) hp23 rfl
      refine GoS.run [10, 47, 48, 49, 54] [.n, .n, .n, .n, .n, .n, .n, .n, .n, .h (.string (sb ([] ++ (packT (deltas (dcs (List.take k L))))))), .n, .n, .n, .n, .n, .n, .n, .n, .n, .n, .n, .n, .n, .n, .n, .n, .n, .n, .n, .h (.pointer (some p22)), .h (vt), .n, .n, .n, .n, .n] _ [.inRegion (cops (csub (cd Try.f11) [1,1,1,1,1,0,1,0,0,1,1,0,0,1,0])) [1,2,3,4,5,6], .code (csub (cd Try.f11) [1,1,1,1,1,0,1,0,0,1,1,0,0,1,1]), .inBlock 3, .code (csub (cd Try.f11) [1,1,1,1,1,0,1,0,0,1,1,1]), .inLoop (csub (cd Try.f11) [1,1,1,1,1,0,1,0,0]), .inBlock 2, .code (csub (cd Try.f11) [1,1,1,1,1,1])] [(10, .string (sb ([] ++ (packT (deltas (dcs (List.take k L))))))), (47, v7), (48, .int .i64 3), (49, .int .i64 1), (54, vt)] w19 (by kernel_rfl) (.cons o25 (.cons o26 (.cons o27 .nil))) ?_
      refine GoS.call [10, 47, 48, 49] 26 #[vt] (some 55) [.inRegion (cops (csub (cd Try.f11) [1,1,1,1,1,0,1,0,0,1,1,0,0,1,0])) [2,3,4,5,6], .code (csub (cd Try.f11) [1,1,1,1,1,0,1,0,0,1,1,0,0,1,1]), .inBlock 3, .code (csub (cd Try.f11) [1,1,1,1,1,0,1,0,0,1,1,1]), .inLoop (csub (cd Try.f11) [1,1,1,1,1,0,1,0,0]), .inBlock 2, .code (csub (cd Try.f11) [1,1,1,1,1,1])] [(10, .string (sb ([] ++ (packT (deltas (dcs (List.take k L))))))), (47, v7), (48, .int .i64 3), (49, .int .i64 1)] (by kernel_rfl) (pack_c vt (tms (List.take k L)) w19 (hM21.rd 2 rfl) (by exact tms_hi (fun p hp => h46 p (List.mem_of_mem_take hp))) (by first | omega | (rw [deltas_len]; omega))) ?_
      rintro _ w28 ⟨rfl, m29⟩
      refine ⟨_, rfl, ?_⟩
      have hM30 := Mem.join hM21 m29
      have o34 : (binOp .add 9 (.string (sb ([] ++ (packT (deltas (dcs (List.take k L))))))) (.string (sb (packT (tms (List.take k L)))))).run Try.prog w28 = .ok (.string (sb (([] ++ (packT (deltas (dcs (List.take k L))))) ++ (packT (tms (List.take k L)))))) w28 := f_stradd (by (simp only [List.length_append, List.length_nil]; omega))
      obtain ⟨p31, hp32, hq33⟩ := rd_at (i := 2) sT54 (hM30.rd 0 rfl) 2 (by omega) (by first | omega | (dsimp only; omega))
      have o35 : (Instr.indexAt 54 (v7) (.int .i64 2)).run Try.prog w28 = .ok (.pointer (some p31)) w28 := hq33 _ _
      have o36 : (Instr.loadAt 38 (.pointer (some p31))).run Try.prog w28 = .ok (vp) w28 := at_load pE38 (hM30.rd 0 rfl) hp32 rfl
      refine GoS.run [10, 47, 48, 49, 54] [.n, .n, .n, .n, .n, .n, .n, .n, .n, .h (.string (sb (([] ++ (packT (deltas (dcs (List.take k L))))) ++ (packT (tms (List.take k L)))))), .n, .n, .n, .n, .n, .n, .n, .n, .n, .n, .n, .n, .n, .n, .n, .n, .n, .n, .n, .h (.pointer (some p31)), .h (vp), .n, .n, .n, .n, .n] _ [.inRegion (cops (csub (cd Try.f11) [1,1,1,1,1,0,1,0,0,1,1,0,0,1,0])) [1,2,3,4,5,6], .code (csub (cd Try.f11) [1,1,1,1,1,0,1,0,0,1,1,0,0,1,1]), .inBlock 3, .code (csub (cd Try.f11) [1,1,1,1,1,0,1,0,0,1,1,1]), .inLoop (csub (cd Try.f11) [1,1,1,1,1,0,1,0,0]), .inBlock 2, .code (csub (cd Try.f11) [1,1,1,1,1,1])] [(10, .string (sb (([] ++ (packT (deltas (dcs (List.take k L))))) ++ (packT (tms (List.take k L)))))), (47, v7), (48, .int .i64 3), (49, .int .i64 2), (54, vp)] w28 (by kernel_rfl) (.cons o34 (.cons o35 (.cons o36 .nil))) ?_
      refine GoS.call [10, 47, 48, 49] 26 #[vp] (some 55) [.inRegion (cops (csub (cd Try.f11) [1,1,1,1,1,0,1,0,0,1,1,0,0,1,0])) [2,3,4,5,6], .code (csub (cd Try.f11) [1,1,1,1,1,0,1,0,0,1,1,0,0,1,1]), .inBlock 3, .code (csub (cd Try.f11) [1,1,1,1,1,0,1,0,0,1,1,1]), .inLoop (csub (cd Try.f11) [1,1,1,1,1,0,1,0,0]), .inBlock 2, .code (csub (cd Try.f11) [1,1,1,1,1,1])] [(10, .string (sb (([] ++ (packT (deltas (dcs (List.take k L))))) ++ (packT (tms (List.take k L)))))), (47, v7), (48, .int .i64 3), (49, .int .i64 2)] (by kernel_rfl) (pack_c vp (pls (List.take k L)) w28 (hM30.rd 3 rfl) (by exact pls_hi _) (by first | omega | (rw [deltas_len]; omega))) ?_
      rintro _ w37 ⟨rfl, m38⟩
      refine ⟨_, rfl, ?_⟩
      have hM39 := Mem.join hM30 m38
      have o40 : (binOp .add 9 (.string (sb (([] ++ (packT (deltas (dcs (List.take k L))))) ++ (packT (tms (List.take k L)))))) (.string (sb (packT (pls (List.take k L)))))).run Try.prog w37 = .ok (.string (sb ((([] ++ (packT (deltas (dcs (List.take k L))))) ++ (packT (tms (List.take k L)))) ++ (packT (pls (List.take k L)))))) w37 := f_stradd (by (simp only [List.length_append, List.length_nil]; omega))
      have hM41 : Mem [] w0 w37 [] := hM39.sub (List.Sublist.cons _ (List.Sublist.cons _ (List.Sublist.cons _ (List.Sublist.cons _ (List.Sublist.refl _)))))
      refine GoS.run [2, 3] [.n, .n, .n, .n, .n, .n, .n, .n, .n, .h (.string (sb ((([] ++ (packT (deltas (dcs (List.take k L))))) ++ (packT (tms (List.take k L)))) ++ (packT (pls (List.take k L)))))), .n, .n, .n, .n, .n, .n, .n, .n, .n, .n, .n, .n, .n, .n, .n, .n, .n, .n, .n, .n, .n] _ [.code (csub (cd Try.f11) [1,1,1,1,1,1,1])] [(2, .string (sb ((([] ++ (packT (deltas (dcs (List.take k L))))) ++ (packT (tms (List.take k L)))) ++ (packT (pls (List.take k L)))))), (3, .int .i64 0)] w37 (by kernel_rfl) (.cons o40 .nil) ?_
      refine GoS.ret (fn := Try.f11) (v := (.tuple #[.string (sb ((([] ++ (packT (deltas (dcs (List.take k L))))) ++ (packT (tms (List.take k L)))) ++ (packT (pls (List.take k L))))), .int .i64 0])) Try.func11 (by kernel_rfl) ?_
      rw [hR]
      obtain rfl : k = L.length := by omega
      rw [List.take_length] at *
      exact ⟨by rw [packP, if_neg (fun z => z hc), hc]; rfl, hM41.sub (List.nil_sublist _)⟩

set_option maxHeartbeats 400000 in
theorem ppack_c {w : World} (u : Value) (L : PS) (X : Nat → Value) (hu : Rd w 2 u L.length (pcells L X)) (hX : ∀ j, j < L.length → Rd w 1 (X j) (L.getD j zp).2.length (ivals .i64 (L.getD j zp).2)) :
    Calls Try.prog 11 #[u] w (fun e w' => e = .returned (.tuple #[.string (sb (packP L)), .int .i64 (ckP (-1) L)]) ∧ Mem [] w w' []) := by
  have hLl := rd_len hu
  simp only [maxLen] at hLl
  obtain ⟨R, hR⟩ : ∃ R : Ending → World → Prop, R = (fun e w' => e = .returned (.tuple #[.string (sb (packP L)), .int .i64 (ckP (-1) L)]) ∧ Mem [] w w' []) := ⟨_, rfl⟩
  rw [← hR]
  refine GoS.enter (n := 63) Try.func11 (by kernel_rfl) rfl [(0, u)] (by kernel_rfl) (by kernel_rfl) ?_
  have hM0 := Mem.start w
  refine GoS.run [0, 15] [.n, .n, .n, .n, .n, .n, .n, .n, .n] _ [.inRegion (cops (csub (cd Try.f11) [1,0,0])) [1,2], .code (csub (cd Try.f11) [1,0,1]), .code (csub (cd Try.f11) [1,1])] [(0, u), (15, u)] w (by kernel_rfl) .nil ?_
  refine GoS.call [0] 14 #[u] (some 16) [.inRegion (cops (csub (cd Try.f11) [1,0,0])) [2], .code (csub (cd Try.f11) [1,0,1]), .code (csub (cd Try.f11) [1,1])] [(0, u)] (by kernel_rfl) (check_c u L X (hu.kept0 hM0.kept) (fun j_ hj_ => (hX j_ hj_).kept0 hM0.kept) ) ?_
  rintro _ w1 ⟨rfl, m2⟩
  refine ⟨_, rfl, ?_⟩
  have hM3 := Mem.join hM0 m2
  refine GoS.run [0, 4, 18] [.n, .n, .n, .n, .n, .n, .n] _ [.code (csub (cd Try.f11) [1,0,1,1]), .code (csub (cd Try.f11) [1,1])] [(0, u), (4, .int .i64 (ckP (-1) L)), (18, .bool ((ckP (-1) L) != 0))] w1 (by kernel_rfl) .nil ?_
  refine GoS.cond ((ckP (-1) L) != 0) [.code (csub (cd Try.f11) [1,0,1,1,0]), .code (csub (cd Try.f11) [1,1])] [.code (csub (cd Try.f11) [1,0,1,1,1]), .code (csub (cd Try.f11) [1,1])] (by kernel_rfl) (fun h4 => ?_) (fun h4 => ?_)
  ·
    have h4p : ¬ ((ckP (-1) L) = 0) := bne_iff_ne.1 h4
    refine GoS.run [2, 3] [.n, .n, .n, .n, .n, .n] _ [.code (csub (cd Try.f11) [1,0,1,1,0,1]), .code (csub (cd Try.f11) [1,1])] [(2, .string (sb ([]))), (3, .int .i64 (ckP (-1) L))] w1 (by kernel_rfl) .nil ?_
    refine GoS.ret (fn := Try.f11) (v := (.tuple #[.string (sb ([])), .int .i64 (ckP (-1) L)])) Try.func11 (by kernel_rfl) ?_
    rw [hR]
    exact ⟨by rw [packP, if_pos (bne_iff_ne.1 h4)], hM3⟩
  ·
    have h4p : (ckP (-1) L) = 0 := p_eq h4
    refine GoS.run [0] [.n] _ [.code (csub (cd Try.f11) [1,1])] [(0, u)] w1 (by kernel_rfl) .nil ?_
    have o5 : (Builtin.len_ #[22] 3 #[u]).run Try.prog w1 = .ok (.int .i64 (((List.length L) : Nat) : Int)) w1 := f_slen sT22 (hu.kept0 hM3.kept) 3 _
    refine GoS.run [5, 6, 7, 20, 21, 22] [.n, .n, .n, .n, .n, .n, .n, .n, .n, .n, .h (.int .i64 (((List.length L) : Nat) : Int)), .n, .n, .n, .n] _ [.code (csub (cd Try.f11) [1,1,1,0,1,0,0]), .inLoop (csub (cd Try.f11) [1,1,1,0,1,0,0]), .inBlock 0, .code (csub (cd Try.f11) [1,1,1,1])] [(5, .slice none 0 0), (6, .slice none 0 0), (7, .slice none 0 0), (20, u), (21, .int .i64 (((List.length L) : Nat) : Int)), (22, .int .i64 0)] w1 (by kernel_rfl) (.cons o5 .nil) ?_
    have hc := p_eq h4
    have hMz : Mem [] w w1 [⟨3, 1, (.slice none 0 0), (List.length (dcs (List.take 0 L))), (ivals .i64 (dcs (List.take 0 L)))⟩, ⟨3, 1, (.slice none 0 0), (List.length (tms (List.take 0 L))), (ivals .i64 (tms (List.take 0 L)))⟩, ⟨3, 1, (.slice none 0 0), (List.length (pls (List.take 0 L))), (ivals .i64 (pls (List.take 0 L)))⟩] := ((hM3.nilrow 3 1).nilrow 3 1).nilrow 3 1
    exact ppack_L u L X hu hX hc R hR (L.length + 1) 0 (.slice none 0 0) (.slice none 0 0) (.slice none 0 0) w1 (by omega) hMz (by omega)


end Go.Proofs.Ythimiheeheaaaaa
