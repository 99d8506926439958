/-
  The walk of the reference's Pack.
-/
import Derived.Test.YthimiheeheaaaaaPosB
import Derived.Test.YthimiheeheaaaaaPackH
import Derived.Test.YthimiheeheaaaaaPackL
namespace Go.Proofs.Ythimiheeheaaaaa
open Go Go.Gw Go.NumP Go.LiveP Go.PackP Go.PostP Go.RowKit
set_option linter.unusedVariables false
set_option linter.unusedSimpArgs false


set_option maxHeartbeats 1000000 in
theorem rppack_L2 {w0 : World} (u : Value) (L : PS) (X : Nat → Value) (hu : Rd w0 2 u L.length (pcells L X)) (hX : ∀ j, j < L.length → Rd w0 1 (X j) (L.getD j zp).2.length (ivals .i64 (L.getD j zp).2)) (hc : ckP (-1) L = 0) (k : Nat) (hk : k < L.length) (va vb : Value) (R : Ending → World → Prop) (hR : R = (fun e w' => e = .returned (.tuple #[.string (sb (packP L)), .int .i64 (ckP (-1) L)]) ∧ Mem [] w0 w' [])) : ∀ (N : Nat) (j : Nat) (vc : Value) (w : World) (out : ∀ (w : World) (vc : Value), Mem [] w0 w [⟨3, 1, va, (List.length (List.take (k + 1) (deltas (dcs L)))), (ivals .i64 (List.take (k + 1) (deltas (dcs L))))⟩, ⟨3, 1, vb, (List.length (tms (List.take (k + 1) L))), (ivals .i64 (tms (List.take (k + 1) L)))⟩, ⟨3, 1, vc, (List.length (pls (List.take (k + 1) L))), (ivals .i64 (pls (List.take (k + 1) L)))⟩] → GoS Try.prog 12 R 107 [.code (csub (cd Try.f12) [1,1,1,1,0,1,0,0]), .inLoop (csub (cd Try.f12) [1,1,1,1,0,1,0,0]), .inBlock 0, .code (csub (cd Try.f12) [1,1,1,1,1])] [(0, u), (5, va), (6, vb), (7, vc), (8, .int .i64 (((k + 1) : Nat) : Int))] w) (hj : j ≤ List.length (List.getD L k zp).2) (hM : Mem [] w0 w [⟨3, 1, va, (List.length (List.take (k + 1) (deltas (dcs L)))), (ivals .i64 (List.take (k + 1) (deltas (dcs L))))⟩, ⟨3, 1, vb, (List.length (tms (List.take (k + 1) L))), (ivals .i64 (tms (List.take (k + 1) L)))⟩, ⟨3, 1, vc, (List.length (pls (List.take k L) ++ List.take j (deltas (List.getD L k zp).2))), (ivals .i64 (pls (List.take k L) ++ List.take j (deltas (List.getD L k zp).2)))⟩]) (hN : List.length (List.getD L k zp).2 - j < N), GoS Try.prog 12 R 107 [.code (csub (cd Try.f12) [1,1,1,1,0,1,0,0,1,0,0,1,1,1,1,1,1,0,0]), .inLoop (csub (cd Try.f12) [1,1,1,1,0,1,0,0,1,0,0,1,1,1,1,1,1,0,0]), .inBlock 2, .inBlock 1, .code (csub (cd Try.f12) [1,1,1,1,0,1,0,0,1,1]), .inLoop (csub (cd Try.f12) [1,1,1,1,0,1,0,0]), .inBlock 0, .code (csub (cd Try.f12) [1,1,1,1,1])] [(0, u), (5, va), (6, vb), (7, vc), (8, .int .i64 ((k : Nat) : Int)), (10, .int .i64 (lastOf (List.getD L k zp).2 j)), (11, .int .i64 ((j : Nat) : Int))] w := by
  intro N
  induction N with
  | zero => intro j vc w out hj hM hN; exact absurd hN (Nat.not_lt_zero _)
  | succ N ih =>
    intro j vc w out hj hM hN
    have hLl := rd_len hu
    simp only [maxLen] at hLl
    have hok := ckP_ok L (-1) hc (by omega) (by omega)
    have hol := hok.1
    have h46 : ∀ p ∈ L, p.2.length ≤ 4096 := fun p hp => (hok.2 p hp).2.2.2.1
    have hpb := packB_len hc
    have hpt := pls_take h46 k
    have hkl : (List.take k L).length ≤ k := by rw [List.length_take]; omega
    have htl := tms_len (List.take k L)
    have hdt : (List.take k (deltas (dcs L))).length ≤ k := by rw [List.length_take]; omega
    have ha46 : k < L.length → (List.getD L k zp).2.length ≤ 4096 := fun h => h46 _ (mem_at h)
    have hxk := hX k hk
    have hak := ha46 hk
    obtain ⟨p1, hp2, hq3⟩ := rd_at (i := ((k : Nat) : Int)) sT22 (hu.kept0 hM.kept) k (by omega) (by first | omega | (dsimp only; omega))
    have o4 : (Instr.indexAt 22 (u) (.int .i64 ((k : Nat) : Int))).run Try.prog w = .ok (.pointer (some p1)) w := hq3 _ _
    have o5 : (Instr.loadAt 38 (.pointer (some (Addr.add p1 1)))).run Try.prog w = .ok ((X k)) w := c_load pE38 (hu.kept0 hM.kept) (Cel.add (At.cel hp2) 1) (p_at1 (by first | omega | (dsimp only; omega)))
    have o6 : (Builtin.len_ #[38] 3 #[(X k)]).run Try.prog w = .ok (.int .i64 (((List.length ((List.getD L k zp).2)) : Nat) : Int)) w := f_slen sT38 (hxk.kept0 hM.kept) 3 _
    refine GoS.run [0, 5, 6, 7, 8, 10, 11, 63] [.n, .n, .n, .n, .n, .n, .h (.pointer (some p1)), .n, .h ((X k)), .h (.int .i64 (((List.length ((List.getD L k zp).2)) : Nat) : Int)), .n, .n] _ [.code (csub (cd Try.f12) [1,1,1,1,0,1,0,0,1,0,0,1,1,1,1,1,1,0,0,0,1]), .code (csub (cd Try.f12) [1,1,1,1,0,1,0,0,1,0,0,1,1,1,1,1,1,0,0,1]), .inLoop (csub (cd Try.f12) [1,1,1,1,0,1,0,0,1,0,0,1,1,1,1,1,1,0,0]), .inBlock 2, .inBlock 1, .code (csub (cd Try.f12) [1,1,1,1,0,1,0,0,1,1]), .inLoop (csub (cd Try.f12) [1,1,1,1,0,1,0,0]), .inBlock 0, .code (csub (cd Try.f12) [1,1,1,1,1])] [(0, u), (5, va), (6, vb), (7, vc), (8, .int .i64 ((k : Nat) : Int)), (10, .int .i64 (lastOf (List.getD L k zp).2 j)), (11, .int .i64 ((j : Nat) : Int)), (63, .bool (decide (((j : Nat) : Int) < (((List.length ((List.getD L k zp).2)) : Nat) : Int))))] w (by kernel_rfl) (.cons o4 (.cons o5 (.cons o6 .nil))) ?_
    refine GoS.cond (decide (((j : Nat) : Int) < (((List.length ((List.getD L k zp).2)) : Nat) : Int))) [.code (csub (cd Try.f12) [1,1,1,1,0,1,0,0,1,0,0,1,1,1,1,1,1,0,0,0,1,0]), .code (csub (cd Try.f12) [1,1,1,1,0,1,0,0,1,0,0,1,1,1,1,1,1,0,0,1]), .inLoop (csub (cd Try.f12) [1,1,1,1,0,1,0,0,1,0,0,1,1,1,1,1,1,0,0]), .inBlock 2, .inBlock 1, .code (csub (cd Try.f12) [1,1,1,1,0,1,0,0,1,1]), .inLoop (csub (cd Try.f12) [1,1,1,1,0,1,0,0]), .inBlock 0, .code (csub (cd Try.f12) [1,1,1,1,1])] [.code (csub (cd Try.f12) [1,1,1,1,0,1,0,0,1,0,0,1,1,1,1,1,1,0,0,0,1,1]), .code (csub (cd Try.f12) [1,1,1,1,0,1,0,0,1,0,0,1,1,1,1,1,1,0,0,1]), .inLoop (csub (cd Try.f12) [1,1,1,1,0,1,0,0,1,0,0,1,1,1,1,1,1,0,0]), .inBlock 2, .inBlock 1, .code (csub (cd Try.f12) [1,1,1,1,0,1,0,0,1,1]), .inLoop (csub (cd Try.f12) [1,1,1,1,0,1,0,0]), .inBlock 0, .code (csub (cd Try.f12) [1,1,1,1,1])] (by kernel_rfl) (fun h7 => ?_) (fun h7 => ?_)
    ·
      have h7p : ((j : Nat) : Int) < (((List.length ((List.getD L k zp).2)) : Nat) : Int) := of_decide_eq_true h7
      refine GoS.run [0, 5, 6, 7, 8, 10, 11] [.n] _ [.code (csub (cd Try.f12) [1,1,1,1,0,1,0,0,1,0,0,1,1,1,1,1,1,0,0,1]), .inLoop (csub (cd Try.f12) [1,1,1,1,0,1,0,0,1,0,0,1,1,1,1,1,1,0,0]), .inBlock 2, .inBlock 1, .code (csub (cd Try.f12) [1,1,1,1,0,1,0,0,1,1]), .inLoop (csub (cd Try.f12) [1,1,1,1,0,1,0,0]), .inBlock 0, .code (csub (cd Try.f12) [1,1,1,1,1])] [(0, u), (5, va), (6, vb), (7, vc), (8, .int .i64 ((k : Nat) : Int)), (10, .int .i64 (lastOf (List.getD L k zp).2 j)), (11, .int .i64 ((j : Nat) : Int))] w (by kernel_rfl) .nil ?_
      obtain ⟨p9, hp10, hq11⟩ := rd_at (i := ((k : Nat) : Int)) sT22 (hu.kept0 hM.kept) k (by omega) (by first | omega | (dsimp only; omega))
      have o30 : (Instr.indexAt 22 (u) (.int .i64 ((k : Nat) : Int))).run Try.prog w = .ok (.pointer (some p9)) w := hq11 _ _
      have o31 : (Instr.loadAt 38 (.pointer (some (Addr.add p9 1)))).run Try.prog w = .ok ((X k)) w := c_load pE38 (hu.kept0 hM.kept) (Cel.add (At.cel hp10) 1) (p_at1 (by first | omega | (dsimp only; omega)))
      obtain ⟨p12, hp13, hq14⟩ := rd_at (i := ((j : Nat) : Int)) sT38 (hxk.kept0 hM.kept) j (by omega) (by first | omega | (dsimp only; omega))
      have o32 : (Instr.indexAt 38 ((X k)) (.int .i64 ((j : Nat) : Int))).run Try.prog w = .ok (.pointer (some p12)) w := hq14 _ _
      have o33 : (Instr.loadAt 3 (.pointer (some p12))).run Try.prog w = .ok (.int .i64 (List.getD ((List.getD L k zp).2) j 0)) w := at_load pE3 (hxk.kept0 hM.kept) hp13 (ivals_at (by first | omega | (dsimp only; omega)))
      obtain ⟨v15, w16, hr17, hM18⟩ := m_lit sT38 hM (n := 1) (parts := #[(0, .int .i64 (IntKind.wrap .i64 ((List.getD ((List.getD L k zp).2) j 0) - (lastOf (List.getD L k zp).2 j))))]) (cs := [.int .i64 (IntKind.wrap .i64 ((List.getD ((List.getD L k zp).2) j 0) - (lastOf (List.getD L k zp).2 j)))]) (by decide) (by kernel_rfl) rfl
      have o34 : (Instr.buildSlice 38 1 #[(0, .int .i64 (IntKind.wrap .i64 ((List.getD ((List.getD L k zp).2) j 0) - (lastOf (List.getD L k zp).2 j))))]).run Try.prog w = .ok v15 w16 := hr17
      obtain ⟨v19, w20, hr21, hM22⟩ := m_append sT38 hM18 3 rfl (hM18.rd 0 rfl) (by intro u hu; simp at hu; rcases hu with rfl <;> rfl) (by first | omega | (simp only [List.length_append, List.length_take, deltas_len]; omega)) (by first | omega | (simp only [List.length_append, List.length_take, deltas_len]; omega)) 38
      have hM23 : Mem [] w0 w20 [⟨3, 1, v15, 1, [.int .i64 (IntKind.wrap .i64 ((List.getD ((List.getD L k zp).2) j 0) - (lastOf (List.getD L k zp).2 j)))]⟩, ⟨3, 1, va, (List.length (List.take (k + 1) (deltas (dcs L)))), (ivals .i64 (List.take (k + 1) (deltas (dcs L))))⟩, ⟨3, 1, vb, (List.length (tms (List.take (k + 1) L))), (ivals .i64 (tms (List.take (k + 1) L)))⟩, ⟨3, 1, v19, (List.length ((pls (List.take k L) ++ List.take j (deltas (List.getD L k zp).2)) ++ ([(IntKind.wrap .i64 ((List.getD ((List.getD L k zp).2) j 0) - (lastOf (List.getD L k zp).2 j)))] : List Int))), (ivals .i64 ((pls (List.take k L) ++ List.take j (deltas (List.getD L k zp).2)) ++ ([(IntKind.wrap .i64 ((List.getD ((List.getD L k zp).2) j 0) - (lastOf (List.getD L k zp).2 j)))] : List Int)))⟩] := hM22.cast (by simp [ivals, svals, bvals, nvals, u8s, Nat.add_assoc])
      have o35 : (Builtin.append_ #[38, 38] 38 #[vc, v15]).run Try.prog w16 = .ok v19 w20 := hr21
      obtain ⟨p24, hp25, hq26⟩ := rd_at (i := ((k : Nat) : Int)) sT22 (hu.kept0 hM23.kept) k (by omega) (by first | omega | (dsimp only; omega))
      have o36 : (Instr.indexAt 22 (u) (.int .i64 ((k : Nat) : Int))).run Try.prog w20 = .ok (.pointer (some p24)) w20 := hq26 _ _
      have o37 : (Instr.loadAt 38 (.pointer (some (Addr.add p24 1)))).run Try.prog w20 = .ok ((X k)) w20 := c_load pE38 (hu.kept0 hM23.kept) (Cel.add (At.cel hp25) 1) (p_at1 (by first | omega | (dsimp only; omega)))
      obtain ⟨p27, hp28, hq29⟩ := rd_at (i := ((j : Nat) : Int)) sT38 (hxk.kept0 hM23.kept) j (by omega) (by first | omega | (dsimp only; omega))
      have o38 : (Instr.indexAt 38 ((X k)) (.int .i64 ((j : Nat) : Int))).run Try.prog w20 = .ok (.pointer (some p27)) w20 := hq29 _ _
      have o39 : (Instr.loadAt 3 (.pointer (some p27))).run Try.prog w20 = .ok (.int .i64 (List.getD ((List.getD L k zp).2) j 0)) w20 := at_load pE3 (hxk.kept0 hM23.kept) hp28 (ivals_at (by first | omega | (dsimp only; omega)))
      have o40 : (binOp .add 3 (.int .i64 ((j : Nat) : Int)) (.int .i64 1)).run Try.prog w20 = .ok (.int .i64 (((j + 1) : Nat) : Int)) w20 := f_add (by rw [show ((j : Nat) : Int) + 1 = (((j + 1) : Nat) : Int) by omega]; exact IntWalk.i64_in _ (by omega))
      have hM41 : Mem [] w0 w20 [⟨3, 1, va, (List.length (List.take (k + 1) (deltas (dcs L)))), (ivals .i64 (List.take (k + 1) (deltas (dcs L))))⟩, ⟨3, 1, vb, (List.length (tms (List.take (k + 1) L))), (ivals .i64 (tms (List.take (k + 1) L)))⟩, ⟨3, 1, v19, (List.length ((pls (List.take k L) ++ List.take j (deltas (List.getD L k zp).2)) ++ ([(IntKind.wrap .i64 ((List.getD ((List.getD L k zp).2) j 0) - (lastOf (List.getD L k zp).2 j)))] : List Int))), (ivals .i64 ((pls (List.take k L) ++ List.take j (deltas (List.getD L k zp).2)) ++ ([(IntKind.wrap .i64 ((List.getD ((List.getD L k zp).2) j 0) - (lastOf (List.getD L k zp).2 j)))] : List Int)))⟩] := hM23.sub (List.Sublist.cons _ (List.Sublist.cons_cons _ (List.Sublist.cons_cons _ (List.Sublist.cons_cons _ (List.Sublist.refl _)))))
      refine GoS.run [0, 5, 6, 7, 8, 10, 11] [.n, .n, .n, .n, .n, .n, .n, .h (.pointer (some p9)), .n, .h ((X k)), .n, .h (.pointer (some p12)), .h (.int .i64 (List.getD ((List.getD L k zp).2) j 0)), .n, .n, .u (v15) (w16), .u (v19) (w20), .n, .n, .n, .n, .n, .h (.pointer (some p24)), .n, .h ((X k)), .n, .h (.pointer (some p27)), .h (.int .i64 (List.getD ((List.getD L k zp).2) j 0)), .n, .n, .n, .n, .n, .h (.int .i64 (((j + 1) : Nat) : Int)), .n, .n, .n] _ [.code (csub (cd Try.f12) [1,1,1,1,0,1,0,0,1,0,0,1,1,1,1,1,1,0,0]), .inLoop (csub (cd Try.f12) [1,1,1,1,0,1,0,0,1,0,0,1,1,1,1,1,1,0,0]), .inBlock 2, .inBlock 1, .code (csub (cd Try.f12) [1,1,1,1,0,1,0,0,1,1]), .inLoop (csub (cd Try.f12) [1,1,1,1,0,1,0,0]), .inBlock 0, .code (csub (cd Try.f12) [1,1,1,1,1])] [(0, u), (5, va), (6, vb), (7, v19), (8, .int .i64 ((k : Nat) : Int)), (10, .int .i64 (List.getD ((List.getD L k zp).2) j 0)), (11, .int .i64 (((j + 1) : Nat) : Int))] w20 (by kernel_rfl) (.cons o30 (.cons o31 (.cons o32 (.cons o33 (.cons o34 (.cons o35 (.cons o36 (.cons o37 (.cons o38 (.cons o39 (.cons o40 .nil))))))))))) ?_
      have e1 := del_take (l := (List.getD L k zp).2) (k := j) (by omega)
      exact ih (j + 1) _ _ out (by omega) (hM41.cast (by rw [e1, ← List.append_assoc]; rfl)) (by omega)
    ·
      have h7p : ¬ (((j : Nat) : Int) < (((List.length ((List.getD L k zp).2)) : Nat) : Int)) := of_decide_eq_false h7
      have o8 : (binOp .add 3 (.int .i64 ((k : Nat) : Int)) (.int .i64 1)).run Try.prog w = .ok (.int .i64 (((k + 1) : Nat) : Int)) w := f_add (by rw [show ((k : Nat) : Int) + 1 = (((k + 1) : Nat) : Int) by omega]; exact IntWalk.i64_in _ (by omega))
      refine GoS.run [0, 5, 6, 7, 8] [.n, .n, .n, .n, .h (.int .i64 (((k + 1) : Nat) : Int)), .n, .n, .n] _ [.code (csub (cd Try.f12) [1,1,1,1,0,1,0,0]), .inLoop (csub (cd Try.f12) [1,1,1,1,0,1,0,0]), .inBlock 0, .code (csub (cd Try.f12) [1,1,1,1,1])] [(0, u), (5, va), (6, vb), (7, vc), (8, .int .i64 (((k + 1) : Nat) : Int))] w (by kernel_rfl) (.cons o8 .nil) ?_
      obtain ⟨_, _, e3⟩ := take_ps2 (L := L) (k := k) (by omega)
      have e4 : List.take j (deltas (List.getD L k zp).2) = deltas (List.getD L k zp).2 := List.take_of_length_le (by rw [deltas_len]; omega)
      exact out _ _ (hM.cast (by rw [e3, e4]))

set_option maxHeartbeats 2000000 in
theorem rppack_L1 {w0 : World} (u : Value) (L : PS) (X : Nat → Value) (hu : Rd w0 2 u L.length (pcells L X)) (hX : ∀ j, j < L.length → Rd w0 1 (X j) (L.getD j zp).2.length (ivals .i64 (L.getD j zp).2)) (hc : ckP (-1) L = 0) (R : Ending → World → Prop) (hR : R = (fun e w' => e = .returned (.tuple #[.string (sb (packP L)), .int .i64 (ckP (-1) L)]) ∧ Mem [] w0 w' [])) : ∀ (N : Nat) (k : Nat) (va vb vc : Value) (w : World) (hk : k ≤ L.length) (hM : Mem [] w0 w [⟨3, 1, va, (List.length (List.take k (deltas (dcs L)))), (ivals .i64 (List.take k (deltas (dcs L))))⟩, ⟨3, 1, vb, (List.length (tms (List.take k L))), (ivals .i64 (tms (List.take k L)))⟩, ⟨3, 1, vc, (List.length (pls (List.take k L))), (ivals .i64 (pls (List.take k L)))⟩]) (hN : L.length - k < N), GoS Try.prog 12 R 107 [.code (csub (cd Try.f12) [1,1,1,1,0,1,0,0]), .inLoop (csub (cd Try.f12) [1,1,1,1,0,1,0,0]), .inBlock 0, .code (csub (cd Try.f12) [1,1,1,1,1])] [(0, u), (5, va), (6, vb), (7, vc), (8, .int .i64 ((k : Nat) : Int))] w := by
  intro N
  induction N with
  | zero => intro k va vb vc w hk hM hN; exact absurd hN (Nat.not_lt_zero _)
  | succ N ih =>
    intro k va vb vc w hk hM hN
    have hLl := rd_len hu
    simp only [maxLen] at hLl
    have hok := ckP_ok L (-1) hc (by omega) (by omega)
    have hol := hok.1
    have h46 : ∀ p ∈ L, p.2.length ≤ 4096 := fun p hp => (hok.2 p hp).2.2.2.1
    have hpb := packB_len hc
    have hpt := pls_take h46 k
    have hkl : (List.take k L).length ≤ k := by rw [List.length_take]; omega
    have htl := tms_len (List.take k L)
    have hdt : (List.take k (deltas (dcs L))).length ≤ k := by rw [List.length_take]; omega
    have ha46 : k < L.length → (List.getD L k zp).2.length ≤ 4096 := fun h => h46 _ (mem_at h)
    have hq1 : k = L.length → List.take k L = L := fun h => by rw [h, List.take_length]
    have hq2 : k = L.length → List.take k (deltas (dcs L)) = deltas (dcs L) := fun h => List.take_of_length_le (by rw [deltas_len, dcs_len]; omega)
    have hpd : k = L.length → (packT (List.take k (deltas (dcs L)))).length ≤ 1000000000 := fun h => by rw [hq2 h]; exact hpb.1
    have hpt2 : k = L.length → (packT (tms (List.take k L))).length ≤ 1000000000 := fun h => by rw [hq1 h]; exact hpb.2.1
    have hpp2 : k = L.length → (packT (pls (List.take k L))).length ≤ 100000000000 := fun h => by rw [hq1 h]; exact hpb.2.2
    have o1 : (Builtin.len_ #[22] 3 #[u]).run Try.prog w = .ok (.int .i64 (((List.length L) : Nat) : Int)) w := f_slen sT22 (hu.kept0 hM.kept) 3 _
    refine GoS.run [0, 5, 6, 7, 8, 26] [.n, .n, .n, .n, .n, .h (.int .i64 (((List.length L) : Nat) : Int)), .n, .n] _ [.code (csub (cd Try.f12) [1,1,1,1,0,1,0,0,0,1]), .code (csub (cd Try.f12) [1,1,1,1,0,1,0,0,1]), .inLoop (csub (cd Try.f12) [1,1,1,1,0,1,0,0]), .inBlock 0, .code (csub (cd Try.f12) [1,1,1,1,1])] [(0, u), (5, va), (6, vb), (7, vc), (8, .int .i64 ((k : Nat) : Int)), (26, .bool (decide (((k : Nat) : Int) < (((List.length L) : Nat) : Int))))] w (by kernel_rfl) (.cons o1 .nil) ?_
    refine GoS.cond (decide (((k : Nat) : Int) < (((List.length L) : Nat) : Int))) [.code (csub (cd Try.f12) [1,1,1,1,0,1,0,0,0,1,0]), .code (csub (cd Try.f12) [1,1,1,1,0,1,0,0,1]), .inLoop (csub (cd Try.f12) [1,1,1,1,0,1,0,0]), .inBlock 0, .code (csub (cd Try.f12) [1,1,1,1,1])] [.code (csub (cd Try.f12) [1,1,1,1,0,1,0,0,0,1,1]), .code (csub (cd Try.f12) [1,1,1,1,0,1,0,0,1]), .inLoop (csub (cd Try.f12) [1,1,1,1,0,1,0,0]), .inBlock 0, .code (csub (cd Try.f12) [1,1,1,1,1])] (by kernel_rfl) (fun h2 => ?_) (fun h2 => ?_)
    ·
      have h2p : ((k : Nat) : Int) < (((List.length L) : Nat) : Int) := of_decide_eq_true h2
      refine GoS.run [0, 5, 6, 7, 8] [.n] _ [.code (csub (cd Try.f12) [1,1,1,1,0,1,0,0,1]), .inLoop (csub (cd Try.f12) [1,1,1,1,0,1,0,0]), .inBlock 0, .code (csub (cd Try.f12) [1,1,1,1,1])] [(0, u), (5, va), (6, vb), (7, vc), (8, .int .i64 ((k : Nat) : Int))] w (by kernel_rfl) .nil ?_
      refine GoS.run [0, 5, 6, 7, 8, 9, 30] [.n, .n, .n, .n, .n, .n, .n, .n, .n, .n, .n, .n] _ [.code (csub (cd Try.f12) [1,1,1,1,0,1,0,0,1,0,0,1,0,1]), .code (csub (cd Try.f12) [1,1,1,1,0,1,0,0,1,0,0,1,1]), .inBlock 1, .code (csub (cd Try.f12) [1,1,1,1,0,1,0,0,1,1]), .inLoop (csub (cd Try.f12) [1,1,1,1,0,1,0,0]), .inBlock 0, .code (csub (cd Try.f12) [1,1,1,1,1])] [(0, u), (5, va), (6, vb), (7, vc), (8, .int .i64 ((k : Nat) : Int)), (9, .int .i64 0), (30, .bool (decide (((k : Nat) : Int) > 0)))] w (by kernel_rfl) .nil ?_
      refine GoS.cond (decide (((k : Nat) : Int) > 0)) [.code (csub (cd Try.f12) [1,1,1,1,0,1,0,0,1,0,0,1,0,1,0]), .code (csub (cd Try.f12) [1,1,1,1,0,1,0,0,1,0,0,1,1]), .inBlock 1, .code (csub (cd Try.f12) [1,1,1,1,0,1,0,0,1,1]), .inLoop (csub (cd Try.f12) [1,1,1,1,0,1,0,0]), .inBlock 0, .code (csub (cd Try.f12) [1,1,1,1,1])] [.code (csub (cd Try.f12) [1,1,1,1,0,1,0,0,1,0,0,1,0,1,1]), .code (csub (cd Try.f12) [1,1,1,1,0,1,0,0,1,0,0,1,1]), .inBlock 1, .code (csub (cd Try.f12) [1,1,1,1,0,1,0,0,1,1]), .inLoop (csub (cd Try.f12) [1,1,1,1,0,1,0,0]), .inBlock 0, .code (csub (cd Try.f12) [1,1,1,1,1])] (by kernel_rfl) (fun h17 => ?_) (fun h17 => ?_)
      ·
        have h17p : ((k : Nat) : Int) > 0 := of_decide_eq_true h17
        have o21 : (binOp .sub 3 (.int .i64 ((k : Nat) : Int)) (.int .i64 1)).run Try.prog w = .ok (.int .i64 (((k - 1) : Nat) : Int)) w := f_sub (by rw [show ((k : Nat) : Int) - 1 = (((k - 1) : Nat) : Int) by omega]; exact IntWalk.i64_in _ (by omega))
        obtain ⟨p18, hp19, hq20⟩ := rd_at (i := (((k - 1) : Nat) : Int)) sT22 (hu.kept0 hM.kept) (k - 1) (by omega) (by first | omega | (dsimp only; omega))
        have o22 : (Instr.indexAt 22 (u) (.int .i64 (((k - 1) : Nat) : Int))).run Try.prog w = .ok (.pointer (some p18)) w := hq20 _ _
        have o23 : (Instr.loadAt 3 (.pointer (some (Addr.add p18 0)))).run Try.prog w = .ok (.int .i64 ((List.getD L (k - 1) zp).1)) w := c_load pE3 (hu.kept0 hM.kept) (Cel.add (At.cel hp19) 0) (p_at0 (by first | omega | (dsimp only; omega)))
        refine GoS.run [0, 5, 6, 7, 8, 9] [.n, .n, .n, .h (.int .i64 (((k - 1) : Nat) : Int)), .h (.pointer (some p18)), .n, .h (.int .i64 ((List.getD L (k - 1) zp).1)), .n, .n] _ [.code (csub (cd Try.f12) [1,1,1,1,0,1,0,0,1,0,0,1,1]), .inBlock 1, .code (csub (cd Try.f12) [1,1,1,1,0,1,0,0,1,1]), .inLoop (csub (cd Try.f12) [1,1,1,1,0,1,0,0]), .inBlock 0, .code (csub (cd Try.f12) [1,1,1,1,1])] [(0, u), (5, va), (6, vb), (7, vc), (8, .int .i64 ((k : Nat) : Int)), (9, .int .i64 ((List.getD L (k - 1) zp).1))] w (by kernel_rfl) (.cons o21 (.cons o22 (.cons o23 .nil))) ?_
        obtain ⟨p24, hp25, hq26⟩ := rd_at (i := ((k : Nat) : Int)) sT22 (hu.kept0 hM.kept) k (by omega) (by first | omega | (dsimp only; omega))
        have o48 : (Instr.indexAt 22 (u) (.int .i64 ((k : Nat) : Int))).run Try.prog w = .ok (.pointer (some p24)) w := hq26 _ _
        have o49 : (Instr.loadAt 3 (.pointer (some (Addr.add p24 0)))).run Try.prog w = .ok (.int .i64 ((List.getD L k zp).1)) w := c_load pE3 (hu.kept0 hM.kept) (Cel.add (At.cel hp25) 0) (p_at0 (by first | omega | (dsimp only; omega)))
        obtain ⟨v27, w28, hr29, hM30⟩ := m_lit sT38 hM (n := 1) (parts := #[(0, .int .i64 (IntKind.wrap .i64 ((List.getD L k zp).1 - (List.getD L (k - 1) zp).1)))]) (cs := [.int .i64 (IntKind.wrap .i64 ((List.getD L k zp).1 - (List.getD L (k - 1) zp).1))]) (by decide) (by kernel_rfl) rfl
        have o50 : (Instr.buildSlice 38 1 #[(0, .int .i64 (IntKind.wrap .i64 ((List.getD L k zp).1 - (List.getD L (k - 1) zp).1)))]).run Try.prog w = .ok v27 w28 := hr29
        obtain ⟨v31, w32, hr33, hM34⟩ := m_append sT38 hM30 1 rfl (hM30.rd 0 rfl) (by intro u hu; simp at hu; rcases hu with rfl <;> rfl) (by first | omega | (simp only [List.length_append, List.length_take, deltas_len]; omega)) (by first | omega | (simp only [List.length_append, List.length_take, deltas_len]; omega)) 38
        have hM35 : Mem [] w0 w32 [⟨3, 1, v27, 1, [.int .i64 (IntKind.wrap .i64 ((List.getD L k zp).1 - (List.getD L (k - 1) zp).1))]⟩, ⟨3, 1, v31, (List.length ((List.take k (deltas (dcs L))) ++ ([(IntKind.wrap .i64 ((List.getD L k zp).1 - (List.getD L (k - 1) zp).1))] : List Int))), (ivals .i64 ((List.take k (deltas (dcs L))) ++ ([(IntKind.wrap .i64 ((List.getD L k zp).1 - (List.getD L (k - 1) zp).1))] : List Int)))⟩, ⟨3, 1, vb, (List.length (tms (List.take k L))), (ivals .i64 (tms (List.take k L)))⟩, ⟨3, 1, vc, (List.length (pls (List.take k L))), (ivals .i64 (pls (List.take k L)))⟩] := hM34.cast (by simp [ivals, svals, bvals, nvals, u8s, Nat.add_assoc])
        have o51 : (Builtin.append_ #[38, 38] 38 #[va, v27]).run Try.prog w28 = .ok v31 w32 := hr33
        obtain ⟨p36, hp37, hq38⟩ := rd_at (i := ((k : Nat) : Int)) sT22 (hu.kept0 hM35.kept) k (by omega) (by first | omega | (dsimp only; omega))
        have o52 : (Instr.indexAt 22 (u) (.int .i64 ((k : Nat) : Int))).run Try.prog w32 = .ok (.pointer (some p36)) w32 := hq38 _ _
        have o53 : (Instr.loadAt 38 (.pointer (some (Addr.add p36 1)))).run Try.prog w32 = .ok ((X k)) w32 := c_load pE38 (hu.kept0 hM35.kept) (Cel.add (At.cel hp37) 1) (p_at1 (by first | omega | (dsimp only; omega)))
        have o54 : (Builtin.len_ #[38] 3 #[(X k)]).run Try.prog w32 = .ok (.int .i64 (((List.length ((List.getD L k zp).2)) : Nat) : Int)) w32 := f_slen sT38 ((hX k (by omega)).kept0 hM35.kept) 3 _
        obtain ⟨v39, w40, hr41, hM42⟩ := m_lit sT38 hM35 (n := 1) (parts := #[(0, .int .i64 (((List.length ((List.getD L k zp).2)) : Nat) : Int))]) (cs := [.int .i64 (((List.length ((List.getD L k zp).2)) : Nat) : Int)]) (by decide) (by kernel_rfl) rfl
        have o55 : (Instr.buildSlice 38 1 #[(0, .int .i64 (((List.length ((List.getD L k zp).2)) : Nat) : Int))]).run Try.prog w32 = .ok v39 w40 := hr41
        obtain ⟨v43, w44, hr45, hM46⟩ := m_append sT38 hM42 3 rfl (hM42.rd 0 rfl) (by intro u hu; simp at hu; rcases hu with rfl <;> rfl) (by first | omega | (simp only [List.length_append, List.length_take, deltas_len]; omega)) (by first | omega | (simp only [List.length_append, List.length_take, deltas_len]; omega)) 38
        have hM47 : Mem [] w0 w44 [⟨3, 1, v39, 1, [.int .i64 (((List.length ((List.getD L k zp).2)) : Nat) : Int)]⟩, ⟨3, 1, v27, 1, [.int .i64 (IntKind.wrap .i64 ((List.getD L k zp).1 - (List.getD L (k - 1) zp).1))]⟩, ⟨3, 1, v31, (List.length ((List.take k (deltas (dcs L))) ++ ([(IntKind.wrap .i64 ((List.getD L k zp).1 - (List.getD L (k - 1) zp).1))] : List Int))), (ivals .i64 ((List.take k (deltas (dcs L))) ++ ([(IntKind.wrap .i64 ((List.getD L k zp).1 - (List.getD L (k - 1) zp).1))] : List Int)))⟩, ⟨3, 1, v43, (List.length ((tms (List.take k L)) ++ ([(((List.length ((List.getD L k zp).2)) : Nat) : Int)] : List Int))), (ivals .i64 ((tms (List.take k L)) ++ ([(((List.length ((List.getD L k zp).2)) : Nat) : Int)] : List Int)))⟩, ⟨3, 1, vc, (List.length (pls (List.take k L))), (ivals .i64 (pls (List.take k L)))⟩] := hM46.cast (by simp [ivals, svals, bvals, nvals, u8s, Nat.add_assoc])
        have o56 : (Builtin.append_ #[38, 38] 38 #[vb, v39]).run Try.prog w40 = .ok v43 w44 := hr45
        have hM57 : Mem [] w0 w44 [⟨3, 1, v31, (List.length ((List.take k (deltas (dcs L))) ++ ([(IntKind.wrap .i64 ((List.getD L k zp).1 - (List.getD L (k - 1) zp).1))] : List Int))), (ivals .i64 ((List.take k (deltas (dcs L))) ++ ([(IntKind.wrap .i64 ((List.getD L k zp).1 - (List.getD L (k - 1) zp).1))] : List Int)))⟩, ⟨3, 1, v43, (List.length ((tms (List.take k L)) ++ ([(((List.length ((List.getD L k zp).2)) : Nat) : Int)] : List Int))), (ivals .i64 ((tms (List.take k L)) ++ ([(((List.length ((List.getD L k zp).2)) : Nat) : Int)] : List Int)))⟩, ⟨3, 1, vc, (List.length (pls (List.take k L))), (ivals .i64 (pls (List.take k L)))⟩] := hM47.sub (List.Sublist.cons _ (List.Sublist.cons _ (List.Sublist.cons_cons _ (List.Sublist.cons_cons _ (List.Sublist.cons_cons _ (List.Sublist.refl _))))))
        refine GoS.run [0, 5, 6, 7, 8, 10, 11] [.n, .n, .n, .n, .n, .h (.pointer (some p24)), .n, .h (.int .i64 ((List.getD L k zp).1)), .n, .n, .u (v27) (w28), .u (v31) (w32), .n, .n, .n, .n, .n, .n, .n, .h (.pointer (some p36)), .n, .h ((X k)), .h (.int .i64 (((List.length ((List.getD L k zp).2)) : Nat) : Int)), .u (v39) (w40), .u (v43) (w44), .n, .n, .n, .n, .n, .n, .n, .n, .n, .n, .n, .n] _ [.code (csub (cd Try.f12) [1,1,1,1,0,1,0,0,1,0,0,1,1,1,1,1,1,0,0]), .inLoop (csub (cd Try.f12) [1,1,1,1,0,1,0,0,1,0,0,1,1,1,1,1,1,0,0]), .inBlock 2, .inBlock 1, .code (csub (cd Try.f12) [1,1,1,1,0,1,0,0,1,1]), .inLoop (csub (cd Try.f12) [1,1,1,1,0,1,0,0]), .inBlock 0, .code (csub (cd Try.f12) [1,1,1,1,1])] [(0, u), (5, v31), (6, v43), (7, vc), (8, .int .i64 ((k : Nat) : Int)), (10, .int .i64 0), (11, .int .i64 0)] w44 (by kernel_rfl) (.cons o48 (.cons o49 (.cons o50 (.cons o51 (.cons o52 (.cons o53 (.cons o54 (.cons o55 (.cons o56 .nil))))))))) ?_
        have hkl2 : k < (deltas (dcs L)).length := by rw [deltas_len, dcs_len]; omega
        have hls : lastOf (dcs L) k = (List.getD L (k - 1) zp).1 := by rw [last_pos (by omega), dcs_at (by omega)]
        have e0 : IntKind.wrap .i64 ((List.getD L k zp).1 - (List.getD L (k - 1) zp).1) = dAt (dcs L) k := by unfold dAt; rw [dcs_at (by omega), hls]
        have e1 := del_take (l := dcs L) (k := k) (by rw [dcs_len]; omega)
        obtain ⟨_, e2, _⟩ := take_ps2 (L := L) (k := k) (by omega)
        exact rppack_L2 u L X hu hX hc k (by omega) v31 v43 R hR (List.length (List.getD L k zp).2 + 1) 0 vc w44 (fun w vc m => ih (k + 1) _ _ vc w (by omega) m (by omega)) (by omega) (hM57.cast (by rw [e0, e1, e2, List.take_zero, List.append_nil])) (by omega)
      ·
        have h17p : ¬ (((k : Nat) : Int) > 0) := of_decide_eq_false h17
        refine GoS.run [0, 5, 6, 7, 8, 9] [.n] _ [.code (csub (cd Try.f12) [1,1,1,1,0,1,0,0,1,0,0,1,1]), .inBlock 1, .code (csub (cd Try.f12) [1,1,1,1,0,1,0,0,1,1]), .inLoop (csub (cd Try.f12) [1,1,1,1,0,1,0,0]), .inBlock 0, .code (csub (cd Try.f12) [1,1,1,1,1])] [(0, u), (5, va), (6, vb), (7, vc), (8, .int .i64 ((k : Nat) : Int)), (9, .int .i64 0)] w (by kernel_rfl) .nil ?_
        obtain ⟨p58, hp59, hq60⟩ := rd_at (i := ((k : Nat) : Int)) sT22 (hu.kept0 hM.kept) k (by omega) (by first | omega | (dsimp only; omega))
        have o82 : (Instr.indexAt 22 (u) (.int .i64 ((k : Nat) : Int))).run Try.prog w = .ok (.pointer (some p58)) w := hq60 _ _
        have o83 : (Instr.loadAt 3 (.pointer (some (Addr.add p58 0)))).run Try.prog w = .ok (.int .i64 ((List.getD L k zp).1)) w := c_load pE3 (hu.kept0 hM.kept) (Cel.add (At.cel hp59) 0) (p_at0 (by first | omega | (dsimp only; omega)))
        obtain ⟨v61, w62, hr63, hM64⟩ := m_lit sT38 hM (n := 1) (parts := #[(0, .int .i64 (IntKind.wrap .i64 ((List.getD L k zp).1 - 0)))]) (cs := [.int .i64 (IntKind.wrap .i64 ((List.getD L k zp).1 - 0))]) (by decide) (by kernel_rfl) rfl
        have o84 : (Instr.buildSlice 38 1 #[(0, .int .i64 (IntKind.wrap .i64 ((List.getD L k zp).1 - 0)))]).run Try.prog w = .ok v61 w62 := hr63
        obtain ⟨v65, w66, hr67, hM68⟩ := m_append sT38 hM64 1 rfl (hM64.rd 0 rfl) (by intro u hu; simp at hu; rcases hu with rfl <;> rfl) (by first | omega | (simp only [List.length_append, List.length_take, deltas_len]; omega)) (by first | omega | (simp only [List.length_append, List.length_take, deltas_len]; omega)) 38
        have hM69 : Mem [] w0 w66 [⟨3, 1, v61, 1, [.int .i64 (IntKind.wrap .i64 ((List.getD L k zp).1 - 0))]⟩, ⟨3, 1, v65, (List.length ((List.take k (deltas (dcs L))) ++ ([(IntKind.wrap .i64 ((List.getD L k zp).1 - 0))] : List Int))), (ivals .i64 ((List.take k (deltas (dcs L))) ++ ([(IntKind.wrap .i64 ((List.getD L k zp).1 - 0))] : List Int)))⟩, ⟨3, 1, vb, (List.length (tms (List.take k L))), (ivals .i64 (tms (List.take k L)))⟩, ⟨3, 1, vc, (List.length (pls (List.take k L))), (ivals .i64 (pls (List.take k L)))⟩] := hM68.cast (by simp [ivals, svals, bvals, nvals, u8s, Nat.add_assoc])
        have o85 : (Builtin.append_ #[38, 38] 38 #[va, v61]).run Try.prog w62 = .ok v65 w66 := hr67
        obtain ⟨p70, hp71, hq72⟩ := rd_at (i := ((k : Nat) : Int)) sT22 (hu.kept0 hM69.kept) k (by omega) (by first | omega | (dsimp only; omega))
        have o86 : (Instr.indexAt 22 (u) (.int .i64 ((k : Nat) : Int))).run Try.prog w66 = .ok (.pointer (some p70)) w66 := hq72 _ _
        have o87 : (Instr.loadAt 38 (.pointer (some (Addr.add p70 1)))).run Try.prog w66 = .ok ((X k)) w66 := c_load pE38 (hu.kept0 hM69.kept) (Cel.add (At.cel hp71) 1) (p_at1 (by first | omega | (dsimp only; omega)))
        have o88 : (Builtin.len_ #[38] 3 #[(X k)]).run Try.prog w66 = .ok (.int .i64 (((List.length ((List.getD L k zp).2)) : Nat) : Int)) w66 := f_slen sT38 ((hX k (by omega)).kept0 hM69.kept) 3 _
        obtain ⟨v73, w74, hr75, hM76⟩ := m_lit sT38 hM69 (n := 1) (parts := #[(0, .int .i64 (((List.length ((List.getD L k zp).2)) : Nat) : Int))]) (cs := [.int .i64 (((List.length ((List.getD L k zp).2)) : Nat) : Int)]) (by decide) (by kernel_rfl) rfl
        have o89 : (Instr.buildSlice 38 1 #[(0, .int .i64 (((List.length ((List.getD L k zp).2)) : Nat) : Int))]).run Try.prog w66 = .ok v73 w74 := hr75
        obtain ⟨v77, w78, hr79, hM80⟩ := m_append sT38 hM76 3 rfl (hM76.rd 0 rfl) (by intro u hu; simp at hu; rcases hu with rfl <;> rfl) (by first | omega | (simp only [List.length_append, List.length_take, deltas_len]; omega)) (by first | omega | (simp only [List.length_append, List.length_take, deltas_len]; omega)) 38
        have hM81 : Mem [] w0 w78 [⟨3, 1, v73, 1, [.int .i64 (((List.length ((List.getD L k zp).2)) : Nat) : Int)]⟩, ⟨3, 1, v61, 1, [.int .i64 (IntKind.wrap .i64 ((List.getD L k zp).1 - 0))]⟩, ⟨3, 1, v65, (List.length ((List.take k (deltas (dcs L))) ++ ([(IntKind.wrap .i64 ((List.getD L k zp).1 - 0))] : List Int))), (ivals .i64 ((List.take k (deltas (dcs L))) ++ ([(IntKind.wrap .i64 ((List.getD L k zp).1 - 0))] : List Int)))⟩, ⟨3, 1, v77, (List.length ((tms (List.take k L)) ++ ([(((List.length ((List.getD L k zp).2)) : Nat) : Int)] : List Int))), (ivals .i64 ((tms (List.take k L)) ++ ([(((List.length ((List.getD L k zp).2)) : Nat) : Int)] : List Int)))⟩, ⟨3, 1, vc, (List.length (pls (List.take k L))), (ivals .i64 (pls (List.take k L)))⟩] := hM80.cast (by simp [ivals, svals, bvals, nvals, u8s, Nat.add_assoc])
        have o90 : (Builtin.append_ #[38, 38] 38 #[vb, v73]).run Try.prog w74 = .ok v77 w78 := hr79
        have hM91 : Mem [] w0 w78 [⟨3, 1, v65, (List.length ((List.take k (deltas (dcs L))) ++ ([(IntKind.wrap .i64 ((List.getD L k zp).1 - 0))] : List Int))), (ivals .i64 ((List.take k (deltas (dcs L))) ++ ([(IntKind.wrap .i64 ((List.getD L k zp).1 - 0))] : List Int)))⟩, ⟨3, 1, v77, (List.length ((tms (List.take k L)) ++ ([(((List.length ((List.getD L k zp).2)) : Nat) : Int)] : List Int))), (ivals .i64 ((tms (List.take k L)) ++ ([(((List.length ((List.getD L k zp).2)) : Nat) : Int)] : List Int)))⟩, ⟨3, 1, vc, (List.length (pls (List.take k L))), (ivals .i64 (pls (List.take k L)))⟩] := hM81.sub (List.Sublist.cons _ (List.Sublist.cons _ (List.Sublist.cons_cons _ (List.Sublist.cons_cons _ (List.Sublist.cons_cons _ (List.Sublist.refl _))))))
        refine GoS.run [0, 5, 6, 7, 8, 10, 11] [.n, .n, .n, .n, .n, .h (.pointer (some p58)), .n, .h (.int .i64 ((List.getD L k zp).1)), .n, .n, .u (v61) (w62), .u (v65) (w66), .n, .n, .n, .n, .n, .n, .n, .h (.pointer (some p70)), .n, .h ((X k)), .h (.int .i64 (((List.length ((List.getD L k zp).2)) : Nat) : Int)), .u (v73) (w74), .u (v77) (w78), .n, .n, .n, .n, .n, .n, .n, .n, .n, .n, .n, .n] _ [.code (csub (cd Try.f12) [1,1,1,1,0,1,0,0,1,0,0,1,1,1,1,1,1,0,0]), .inLoop (csub (cd Try.f12) [1,1,1,1,0,1,0,0,1,0,0,1,1,1,1,1,1,0,0]), .inBlock 2, .inBlock 1, .code (csub (cd Try.f12) [1,1,1,1,0,1,0,0,1,1]), .inLoop (csub (cd Try.f12) [1,1,1,1,0,1,0,0]), .inBlock 0, .code (csub (cd Try.f12) [1,1,1,1,1])] [(0, u), (5, v65), (6, v77), (7, vc), (8, .int .i64 ((k : Nat) : Int)), (10, .int .i64 0), (11, .int .i64 0)] w78 (by kernel_rfl) (.cons o82 (.cons o83 (.cons o84 (.cons o85 (.cons o86 (.cons o87 (.cons o88 (.cons o89 (.cons o90 .nil))))))))) ?_
        have hkl2 : k < (deltas (dcs L)).length := by rw [deltas_len, dcs_len]; omega
        have hls : lastOf (dcs L) k = 0 := by rw [show k = 0 by omega]; rfl
        have e0 : IntKind.wrap .i64 ((List.getD L k zp).1 - 0) = dAt (dcs L) k := by unfold dAt; rw [dcs_at (by omega), hls]
        have e1 := del_take (l := dcs L) (k := k) (by rw [dcs_len]; omega)
        obtain ⟨_, e2, _⟩ := take_ps2 (L := L) (k := k) (by omega)
        exact rppack_L2 u L X hu hX hc k (by omega) v65 v77 R hR (List.length (List.getD L k zp).2 + 1) 0 vc w78 (fun w vc m => ih (k + 1) _ _ vc w (by omega) m (by omega)) (by omega) (hM91.cast (by rw [e0, e1, e2, List.take_zero, List.append_nil])) (by omega)
    ·
      have h2p : ¬ (((k : Nat) : Int) < (((List.length L) : Nat) : Int)) := of_decide_eq_false h2
      refine GoS.run [6, 7, 88] [.n, .n, .n, .n] _ [.inRegion (cops (csub (cd Try.f12) [1,1,1,1,1,0])) [1,2,3,4,5,6], .code (csub (cd Try.f12) [1,1,1,1,1,1])] [(6, vb), (7, vc), (88, va)] w (by kernel_rfl) .nil ?_
      refine GoS.call [6, 7] 27 #[va] (some 89) [.inRegion (cops (csub (cd Try.f12) [1,1,1,1,1,0])) [2,3,4,5,6], .code (csub (cd Try.f12) [1,1,1,1,1,1])] [(6, vb), (7, vc)] (by kernel_rfl) (rpack_c va (List.take k (deltas (dcs L))) w (hM.rd 0 rfl) (by exact fun n hn => deltas_hi _ n (List.mem_of_mem_take hn)) (by omega)) ?_
      rintro _ w3 ⟨rfl, m4⟩
      refine ⟨_, rfl, ?_⟩
      have hM5 := Mem.join hM m4
      have hM6 : Mem [] w0 w3 [⟨3, 1, vb, (List.length (tms (List.take k L))), (ivals .i64 (tms (List.take k L)))⟩, ⟨3, 1, vc, (List.length (pls (List.take k L))), (ivals .i64 (pls (List.take k L)))⟩] := hM5.sub (List.Sublist.cons _ (List.Sublist.cons_cons _ (List.Sublist.cons_cons _ (List.Sublist.refl _))))
      refine GoS.run [7, 12, 93] [.n, .n, .n, .n, .n, .n, .n, .n, .n] _ [.inRegion (cops (csub (cd Try.f12) [1,1,1,1,1,1,0])) [1,2,3,4,5,6], .code (csub (cd Try.f12) [1,1,1,1,1,1,1])] [(7, vc), (12, .string (sb (packT (List.take k (deltas (dcs L)))))), (93, vb)] w3 (by kernel_rfl) .nil ?_
      refine GoS.call [7, 12] 27 #[vb] (some 94) [.inRegion (cops (csub (cd Try.f12) [1,1,1,1,1,1,0])) [2,3,4,5,6], .code (csub (cd Try.f12) [1,1,1,1,1,1,1])] [(7, vc), (12, .string (sb (packT (List.take k (deltas (dcs L))))))] (by kernel_rfl) (rpack_c vb (tms (List.take k L)) w3 (hM6.rd 0 rfl) (by exact tms_hi (fun p hp => h46 p (List.mem_of_mem_take hp))) (by omega)) ?_
      rintro _ w7 ⟨rfl, m8⟩
      refine ⟨_, rfl, ?_⟩
      have hM9 := Mem.join hM6 m8
      have hM10 : Mem [] w0 w7 [⟨3, 1, vc, (List.length (pls (List.take k L))), (ivals .i64 (pls (List.take k L)))⟩] := hM9.sub (List.Sublist.cons _ (List.Sublist.cons_cons _ (List.Sublist.refl _)))
      refine GoS.run [12, 14, 98] [.n, .n, .n, .n, .n, .n, .n, .n, .n] _ [.inRegion (cops (csub (cd Try.f12) [1,1,1,1,1,1,1,0])) [1,2,3,4,5,6], .code (csub (cd Try.f12) [1,1,1,1,1,1,1,1])] [(12, .string (sb (packT (List.take k (deltas (dcs L)))))), (14, .string (sb (packT (tms (List.take k L))))), (98, vc)] w7 (by kernel_rfl) .nil ?_
      refine GoS.call [12, 14] 27 #[vc] (some 99) [.inRegion (cops (csub (cd Try.f12) [1,1,1,1,1,1,1,0])) [2,3,4,5,6], .code (csub (cd Try.f12) [1,1,1,1,1,1,1,1])] [(12, .string (sb (packT (List.take k (deltas (dcs L)))))), (14, .string (sb (packT (tms (List.take k L)))))] (by kernel_rfl) (rpack_c vc (pls (List.take k L)) w7 (hM10.rd 0 rfl) (by exact pls_hi _) (by omega)) ?_
      rintro _ w11 ⟨rfl, m12⟩
      refine ⟨_, rfl, ?_⟩
      have hM13 := Mem.join hM10 m12
      have o14 : (binOp .add 9 (.string (sb (packT (List.take k (deltas (dcs L)))))) (.string (sb (packT (tms (List.take k L)))))).run Try.prog w11 = .ok (.string (sb ((packT (List.take k (deltas (dcs L)))) ++ (packT (tms (List.take k L)))))) w11 := f_stradd (by first | omega | (simp only [List.length_append, List.length_nil]; omega))
      have o15 : (binOp .add 9 (.string (sb ((packT (List.take k (deltas (dcs L)))) ++ (packT (tms (List.take k L)))))) (.string (sb (packT (pls (List.take k L)))))).run Try.prog w11 = .ok (.string (sb (((packT (List.take k (deltas (dcs L)))) ++ (packT (tms (List.take k L)))) ++ (packT (pls (List.take k L)))))) w11 := f_stradd (by first | omega | (simp only [List.length_append, List.length_nil]; omega))
      have hM16 : Mem [] w0 w11 [] := hM13.sub (List.Sublist.cons _ (List.Sublist.refl _))
      refine GoS.run [2, 3] [.n, .n, .n, .n, .n, .n, .n, .n, .n, .n, .h (.string (sb ((packT (List.take k (deltas (dcs L)))) ++ (packT (tms (List.take k L)))))), .n, .h (.string (sb (((packT (List.take k (deltas (dcs L)))) ++ (packT (tms (List.take k L)))) ++ (packT (pls (List.take k L)))))), .n, .n, .n] _ [.code (csub (cd Try.f12) [1,1,1,1,1,1,1,1,1])] [(2, .string (sb (((packT (List.take k (deltas (dcs L)))) ++ (packT (tms (List.take k L)))) ++ (packT (pls (List.take k L)))))), (3, .int .i64 0)] w11 (by kernel_rfl) (.cons o14 (.cons o15 .nil)) ?_
      refine GoS.ret (fn := Try.f12) (v := (.tuple #[.string (sb (((packT (List.take k (deltas (dcs L)))) ++ (packT (tms (List.take k L)))) ++ (packT (pls (List.take k L))))), .int .i64 0])) Try.func12 (by kernel_rfl) ?_
      rw [hR]
      have hkk : k = L.length := by omega
      have e1 := hq1 hkk
      have e2 := hq2 hkk
      rw [e1, e2]
      exact ⟨by rw [packP, if_neg (fun z => z hc), hc]; rfl, hM16.sub (List.nil_sublist _)⟩

set_option maxHeartbeats 400000 in
theorem rppack_c {w : World} (u : Value) (L : PS) (X : Nat → Value) (hu : Rd w 2 u L.length (pcells L X)) (hX : ∀ j, j < L.length → Rd w 1 (X j) (L.getD j zp).2.length (ivals .i64 (L.getD j zp).2)) :
    Calls Try.prog 12 #[u] w (fun e w' => e = .returned (.tuple #[.string (sb (packP L)), .int .i64 (ckP (-1) L)]) ∧ Mem [] w w' []) := by
  have hLl := rd_len hu
  simp only [maxLen] at hLl
  obtain ⟨R, hR⟩ : ∃ R : Ending → World → Prop, R = (fun e w' => e = .returned (.tuple #[.string (sb (packP L)), .int .i64 (ckP (-1) L)]) ∧ Mem [] w w' []) := ⟨_, rfl⟩
  rw [← hR]
  refine GoS.enter (n := 107) Try.func12 (by kernel_rfl) rfl [(0, u)] (by kernel_rfl) (by kernel_rfl) ?_
  have hM0 := Mem.start w
  refine GoS.run [0, 18] [.n, .n, .n, .n, .n, .n, .n, .n] _ [.inRegion (cops (csub (cd Try.f12) [1,0])) [1,2], .code (csub (cd Try.f12) [1,1])] [(0, u), (18, u)] w (by kernel_rfl) .nil ?_
  refine GoS.call [0] 15 #[u] (some 19) [.inRegion (cops (csub (cd Try.f12) [1,0])) [2], .code (csub (cd Try.f12) [1,1])] [(0, u)] (by kernel_rfl) (rcheck_c u L X (hu.kept0 hM0.kept) (fun j_ hj_ => (hX j_ hj_).kept0 hM0.kept)) ?_
  rintro _ w1 ⟨rfl, m2⟩
  refine ⟨_, rfl, ?_⟩
  have hM3 := Mem.join hM0 m2
  refine GoS.run [0, 4, 21] [.n, .n, .n, .n, .n, .n, .n, .n] _ [.code (csub (cd Try.f12) [1,1,0,1]), .code (csub (cd Try.f12) [1,1,1])] [(0, u), (4, .int .i64 (ckP (-1) L)), (21, .bool ((ckP (-1) L) != 0))] w1 (by kernel_rfl) .nil ?_
  refine GoS.cond ((ckP (-1) L) != 0) [.code (csub (cd Try.f12) [1,1,0,1,0]), .code (csub (cd Try.f12) [1,1,1])] [.code (csub (cd Try.f12) [1,1,0,1,1]), .code (csub (cd Try.f12) [1,1,1])] (by kernel_rfl) (fun h4 => ?_) (fun h4 => ?_)
  ·
    have h4p : ¬ ((ckP (-1) L) = 0) := bne_iff_ne.1 h4
    refine GoS.run [2, 3] [.n, .n, .n, .n, .n, .n] _ [.code (csub (cd Try.f12) [1,1,0,1,0,1]), .code (csub (cd Try.f12) [1,1,1])] [(2, .string (sb ([]))), (3, .int .i64 (ckP (-1) L))] w1 (by kernel_rfl) .nil ?_
    refine GoS.ret (fn := Try.f12) (v := (.tuple #[.string (sb ([])), .int .i64 (ckP (-1) L)])) Try.func12 (by kernel_rfl) ?_
    rw [hR]
    exact ⟨by rw [packP, if_pos (bne_iff_ne.1 h4)], hM3⟩
  ·
    have h4p : (ckP (-1) L) = 0 := p_eq h4
    refine GoS.run [0] [.n] _ [.code (csub (cd Try.f12) [1,1,1])] [(0, u)] w1 (by kernel_rfl) .nil ?_
    refine GoS.run [0, 5, 6, 7, 8] [.n, .n, .n, .n, .n, .n, .n, .n, .n, .n, .n, .n, .n] _ [.code (csub (cd Try.f12) [1,1,1,1,0,1,0,0]), .inLoop (csub (cd Try.f12) [1,1,1,1,0,1,0,0]), .inBlock 0, .code (csub (cd Try.f12) [1,1,1,1,1])] [(0, u), (5, .slice none 0 0), (6, .slice none 0 0), (7, .slice none 0 0), (8, .int .i64 0)] w1 (by kernel_rfl) .nil ?_
    have hc := p_eq h4
    have hMz : Mem [] w w1 [⟨3, 1, (.slice none 0 0), (List.length (List.take 0 (deltas (dcs L)))), (ivals .i64 (List.take 0 (deltas (dcs L))))⟩, ⟨3, 1, (.slice none 0 0), (List.length (tms (List.take 0 L))), (ivals .i64 (tms (List.take 0 L)))⟩, ⟨3, 1, (.slice none 0 0), (List.length (pls (List.take 0 L))), (ivals .i64 (pls (List.take 0 L)))⟩] := (((hM3.nilrow 3 1).nilrow 3 1).nilrow 3 1).cast (by simp [dcs, tms, pls, ivals])
    exact rppack_L1 u L X hu hX hc R hR (L.length + 1) 0 (.slice none 0 0) (.slice none 0 0) (.slice none 0 0) w1 (by omega) hMz (by omega)


end Go.Proofs.Ythimiheeheaaaaa
