/-
  The walk of Copy, of the reference.
-/
import Derived.Test.YthimiheeheaaaaaPosA
namespace Go.Proofs.Ythimiheeheaaaaa
open Go Go.Gw Go.NumP Go.LiveP Go.PackP Go.PostP Go.RowKit
set_option linter.unusedVariables false
set_option linter.unusedSimpArgs false


set_option maxHeartbeats 400000 in
theorem copy_L {w0 : World} (u : Value) (L : PS) (X : Nat → Value) (hu : Rd w0 2 u L.length (pcells L X)) (hX : ∀ j, j < L.length → Rd w0 1 (X j) (L.getD j zp).2.length (ivals .i64 (L.getD j zp).2)) (hLr : L.length * 32 ≤ 140737488351232) (hAr : ∀ j, j < L.length → (L.getD j zp).2.length * 8 ≤ 140737488351232) (R : Ending → World → Prop) (hR : R = (fun e w' => ∃ v Y, e = .returned v ∧ Mem [] w0 w' (⟨40, 2, v, (List.length L), (pcells L Y)⟩ :: (atR 3 Y L 0 (List.length L))))) : ∀ (N : Nat) (k : Nat) (Y : Nat → Value) (v : Value) (w : World) (hk : k ≤ L.length) (hM : Mem [] w0 w (⟨40, 2, v, (List.length (List.take k L)), (pcells (List.take k L) Y)⟩ :: (atR 3 Y (List.take k L) 0 (List.length (List.take k L))))) (hN : L.length - k < N), GoS Try.prog 10 R 28 [.code (csub (cd Try.f10) [1,1,0,1,0,0]), .inLoop (csub (cd Try.f10) [1,1,0,1,0,0]), .inBlock 0, .code (csub (cd Try.f10) [1,1,1])] [(0, u), (3, v), (4, .int .i64 ((k : Nat) : Int))] w := by
  intro N
  induction N with
  | zero => intro k Y v w hk hM hN; exact absurd hN (Nat.not_lt_zero _)
  | succ N ih =>
    intro k Y v w hk hM hN
    have hark := hAr k
    have hkl : (List.take k L).length = k := by rw [List.length_take]; omega
    have o1 : (Builtin.len_ #[22] 3 #[u]).run Try.prog w = .ok (.int .i64 (((List.length L) : Nat) : Int)) w := f_slen sT22 (hu.kept0 hM.kept) 3 _
    refine GoS.run [0, 3, 4, 8] [.n, .n, .n, .n, .n, .h (.int .i64 (((List.length L) : Nat) : Int)), .n, .n] _ [.code (csub (cd Try.f10) [1,1,0,1,0,0,0,1]), .code (csub (cd Try.f10) [1,1,0,1,0,0,1]), .inLoop (csub (cd Try.f10) [1,1,0,1,0,0]), .inBlock 0, .code (csub (cd Try.f10) [1,1,1])] [(0, u), (3, v), (4, .int .i64 ((k : Nat) : Int)), (8, .bool (decide (((k : Nat) : Int) < (((List.length L) : Nat) : Int))))] w (by kernel_rfl) (.cons o1 .nil) ?_
    refine GoS.cond (decide (((k : Nat) : Int) < (((List.length L) : Nat) : Int))) [.code (csub (cd Try.f10) [1,1,0,1,0,0,0,1,0]), .code (csub (cd Try.f10) [1,1,0,1,0,0,1]), .inLoop (csub (cd Try.f10) [1,1,0,1,0,0]), .inBlock 0, .code (csub (cd Try.f10) [1,1,1])] [.code (csub (cd Try.f10) [1,1,0,1,0,0,0,1,1]), .code (csub (cd Try.f10) [1,1,0,1,0,0,1]), .inLoop (csub (cd Try.f10) [1,1,0,1,0,0]), .inBlock 0, .code (csub (cd Try.f10) [1,1,1])] (by kernel_rfl) (fun h2 => ?_) (fun h2 => ?_)
    ·
      have h2p : ((k : Nat) : Int) < (((List.length L) : Nat) : Int) := of_decide_eq_true h2
      refine GoS.run [0, 3, 4] [.n] _ [.code (csub (cd Try.f10) [1,1,0,1,0,0,1]), .inLoop (csub (cd Try.f10) [1,1,0,1,0,0]), .inBlock 0, .code (csub (cd Try.f10) [1,1,1])] [(0, u), (3, v), (4, .int .i64 ((k : Nat) : Int))] w (by kernel_rfl) .nil ?_
      refine GoS.run [0, 3, 4] [.n, .n] _ [.code (csub (cd Try.f10) [1,1,0,1,0,0,1,0,0]), .inBlock 1, .code (csub (cd Try.f10) [1,1,0,1,0,0,1,1]), .inLoop (csub (cd Try.f10) [1,1,0,1,0,0]), .inBlock 0, .code (csub (cd Try.f10) [1,1,1])] [(0, u), (3, v), (4, .int .i64 ((k : Nat) : Int))] w (by kernel_rfl) .nil ?_
      obtain ⟨w3, hw4⟩ : ∃ w_, (w).drewN 1 = w_ := ⟨_, rfl⟩
      refine GoS.held (fun W_ => Mem [] w0 W_ ((atR 3 Y (List.take k L) 0 (List.length (List.take k L))))) [] 5 (by kernel_rfl) (by kernel_rfl) 17 (by kernel_rfl) ?_
      rw [hw4]
      have hM5 : Mem [] w0 w3 (⟨40, 2, v, (List.length (List.take k L)), (pcells (List.take k L) Y)⟩ :: (atR 3 Y (List.take k L) 0 (List.length (List.take k L)))) := hw4 ▸ hM.ext (Kept.drewN _ _ 1)
      have hS6 : Mem [] w0 w3 ((atR 3 Y (List.take k L) 0 (List.length (List.take k L)))) := hM5.sub (List.Sublist.cons _ (List.Sublist.refl _))
      refine GoH.takeV 0 (v) (v) (some 11) (fun W_ => by kernel_rfl) rfl hS6 ?_
      refine GoH.takeV 1 (u) (u) (some 12) (fun W_ => by kernel_rfl) rfl hS6 ?_
      refine GoH.takeV 2 (.int .i64 ((k : Nat) : Int)) (.int .i64 ((k : Nat) : Int)) (some 13) (fun W_ => by kernel_rfl) rfl hS6 ?_
      obtain ⟨p7, hp8, hq9⟩ := rd_at (i := ((k : Nat) : Int)) sT22 (hu.kept0 hS6.kept) k (by omega) (by first | omega | (dsimp only; omega))
      refine GoH.takeF 3 (.pointer (some p7)) (fun W_ => (Instr.indexAt 22 (u) (.int .i64 ((k : Nat) : Int))).run Try.prog W_ = .ok (.pointer (some p7)) W_) (some 14) (fun W_ => by kernel_rfl) (fun W_ hW_ => hq9 _ _) hS6 ?_
      refine GoH.takeV 4 (.pointer (some (Addr.add p7 0))) (.pointer (some (Addr.add p7 0))) (some 15) (fun W_ => by kernel_rfl) rfl hS6 ?_
      refine GoH.takeF 5 (.int .i64 ((List.getD L k zp).1)) (fun W_ => (Instr.loadAt 3 (.pointer (some (Addr.add p7 0)))).run Try.prog W_ = .ok (.int .i64 ((List.getD L k zp).1)) W_) (some 16) (fun W_ => by kernel_rfl) (fun W_ hW_ => c_load pE3 (hu.kept0 hW_.kept) (Cel.add (At.cel hp8) 0) (p_at0 (by first | omega | (dsimp only; omega)))) hS6 ?_
      refine GoH.takeV 7 (u) (u) (some 18) (fun W_ => by kernel_rfl) rfl hS6 ?_
      refine GoH.takeV 8 (.int .i64 ((k : Nat) : Int)) (.int .i64 ((k : Nat) : Int)) (some 19) (fun W_ => by kernel_rfl) rfl hS6 ?_
      obtain ⟨p10, hp11, hq12⟩ := rd_at (i := ((k : Nat) : Int)) sT22 (hu.kept0 hS6.kept) k (by omega) (by first | omega | (dsimp only; omega))
      refine GoH.takeF 9 (.pointer (some p10)) (fun W_ => (Instr.indexAt 22 (u) (.int .i64 ((k : Nat) : Int))).run Try.prog W_ = .ok (.pointer (some p10)) W_) (some 20) (fun W_ => by kernel_rfl) (fun W_ hW_ => hq12 _ _) hS6 ?_
      refine GoH.takeV 10 (.pointer (some (Addr.add p10 1))) (.pointer (some (Addr.add p10 1))) (some 21) (fun W_ => by kernel_rfl) rfl hS6 ?_
      refine GoH.takeF 11 ((X k)) (fun W_ => (Instr.loadAt 38 (.pointer (some (Addr.add p10 1)))).run Try.prog W_ = .ok ((X k)) W_) (some 22) (fun W_ => by kernel_rfl) (fun W_ hW_ => c_load pE38 (hu.kept0 hW_.kept) (Cel.add (At.cel hp11) 1) (p_at1 (by first | omega | (dsimp only; omega)))) hS6 ?_
      obtain ⟨v13, w14, hr15, hM16⟩ := m_lit sT38 hM5 (n := 0) (parts := #[]) (cs := []) (by decide) (by kernel_rfl) rfl
      have hS17 : Mem [] w0 w14 ((atR 3 Y (List.take k L) 0 (List.length (List.take k L)))) := hM16.sub (List.Sublist.cons _ (List.Sublist.cons _ (List.Sublist.refl _)))
      refine GoH.stepF 6 (v13) (w14) ((Instr.buildSlice 38 0 #[]).run Try.prog w3 = .ok v13 w14) (some 17) (by kernel_rfl) (hr15) (.inr hS17) ?_
      obtain ⟨v18, w19, hr20, hM21⟩ := m_append sT38 hM16 0 rfl ((hX k (by omega)).kept0 hM16.kept) (ivals_one .i64 ((List.getD L k zp).2)) (by first | omega | (simp only [List.length_take]; omega)) (by first | omega | (simp only [List.length_take]; omega)) 38
      have hM22 : Mem [] w0 w19 (⟨3, 1, v18, (List.length ((List.getD L k zp).2)), (ivals .i64 ((List.getD L k zp).2))⟩ :: ⟨40, 2, v, (List.length (List.take k L)), (pcells (List.take k L) Y)⟩ :: (atR 3 Y (List.take k L) 0 (List.length (List.take k L)))) := hM21.cast (by simp [ivals, svals, bvals, nvals, u8s, Nat.add_assoc])
      have hS23 : Mem [] w0 w19 ((atR 3 Y (List.take k L) 0 (List.length (List.take k L)))) := hM22.sub (List.Sublist.cons _ (List.Sublist.cons _ (List.Sublist.refl _)))
      refine GoH.stepF 12 (v18) (w19) ((Builtin.append_ #[38, 38] 38 #[v13, (X k)]).run Try.prog w14 = .ok v18 w19) (some 23) (by kernel_rfl) (hr20) (.inr hS23) ?_
      have hS24 : Mem [] w0 w19 ((atR 3 Y (List.take k L) 0 (List.length (List.take k L)))) := hM22.sub (List.Sublist.cons _ (List.Sublist.cons _ (List.Sublist.refl _)))
      refine GoH.stepF 13 (.agg #[.int .i64 ((List.getD L k zp).1), v18]) (w19) ((Instr.build 40 #[(0, .int .i64 ((List.getD L k zp).1)), (1, v18)]).run Try.prog w19 = .ok (.agg #[.int .i64 ((List.getD L k zp).1), v18]) w19) (some 24) (by kernel_rfl) ((by obtain ⟨a0_, m0_, c0_, e0_⟩ : ∃ a m c, v18 = Value.slice a m c := rd_form (hM22.rd 0 rfl); rw [e0_]; kernel_rfl)) (.inr hS24) ?_
      obtain ⟨v25, w26, hr27, hM28⟩ := m_lit sT22 hM22 (n := 1) (parts := #[(0, .agg #[.int .i64 ((List.getD L k zp).1), v18])]) (cs := [.int .i64 ((List.getD L k zp).1), v18]) (by decide) (by kernel_rfl) rfl
      have hS29 : Mem [] w0 w26 ((atR 3 Y (List.take k L) 0 (List.length (List.take k L)))) := hM28.sub (List.Sublist.cons _ (List.Sublist.cons _ (List.Sublist.cons _ (List.Sublist.refl _))))
      refine GoH.stepF 14 (v25) (w26) ((Instr.buildSlice 22 1 #[(0, .agg #[.int .i64 ((List.getD L k zp).1), v18])]).run Try.prog w19 = .ok v25 w26) (some 25) (by kernel_rfl) (hr27) (.inr hS29) ?_
      obtain ⟨v30, w31, hr32, hM33⟩ := m_append sT22 hM28 2 rfl (hM28.rd 0 rfl) (by intro u hu; simp at hu; rcases hu with rfl | rfl; exact rfl; exact rd_one (hM28.rd 1 rfl)) (by first | omega | (simp only [List.length_take]; omega)) (by first | omega | (simp only [List.length_take]; omega)) 22
      have hM34 : Mem [] w0 w31 (⟨40, 2, v25, 1, [.int .i64 ((List.getD L k zp).1), v18]⟩ :: ⟨3, 1, v18, (List.length ((List.getD L k zp).2)), (ivals .i64 ((List.getD L k zp).2))⟩ :: ⟨40, 2, v30, (List.length ((List.take k L) ++ [((List.getD L k zp).1, (List.getD L k zp).2)])), (pcells ((List.take k L) ++ [((List.getD L k zp).1, (List.getD L k zp).2)]) (updX Y (List.length (List.take k L)) v18))⟩ :: (atR 3 Y (List.take k L) 0 (List.length (List.take k L)))) := hM33.cast (by rw [← pcells_snoc, @List.length_append _ (List.take k L) _]; rfl)
      have hS35 : Mem [] w0 w31 ((atR 3 Y (List.take k L) 0 (List.length (List.take k L)))) := hM34.sub (List.Sublist.cons _ (List.Sublist.cons _ (List.Sublist.cons _ (List.Sublist.refl _))))
      refine GoH.stepF 15 (v30) (w31) ((Builtin.append_ #[22, 22] 22 #[v, v25]).run Try.prog w26 = .ok v30 w31) (some 26) (by kernel_rfl) (hr32) (.inr hS35) ?_
      refine GoH.takeV 16 (v30) (v30) (some 3) (fun W_ => by kernel_rfl) rfl hS35 ?_
      refine GoH.done [0, 3, 4] [(0, u), (3, v30), (4, .int .i64 ((k : Nat) : Int))] (by kernel_rfl) (by kernel_rfl) ?_
      have hM36 : Mem [] w0 w31 (⟨3, 1, v18, (List.length ((List.getD L k zp).2)), (ivals .i64 ((List.getD L k zp).2))⟩ :: ⟨40, 2, v30, (List.length ((List.take k L) ++ [((List.getD L k zp).1, (List.getD L k zp).2)])), (pcells ((List.take k L) ++ [((List.getD L k zp).1, (List.getD L k zp).2)]) (updX Y (List.length (List.take k L)) v18))⟩ :: (atR 3 Y (List.take k L) 0 (List.length (List.take k L)))) := hM34.sub (List.Sublist.cons _ (List.Sublist.cons_cons _ (List.Sublist.cons_cons _ (List.Sublist.refl _))))
      have o37 : (binOp .add 3 (.int .i64 ((k : Nat) : Int)) (.int .i64 1)).run Try.prog w31 = .ok (.int .i64 (((k + 1) : Nat) : Int)) w31 := f_add (by rw [show ((k : Nat) : Int) + 1 = (((k + 1) : Nat) : Int) by omega]; exact IntWalk.i64_in _ (by omega))
      refine GoS.run [0, 3, 4] [.n, .n, .n, .h (.int .i64 (((k + 1) : Nat) : Int)), .n, .n, .n] _ [.code (csub (cd Try.f10) [1,1,0,1,0,0]), .inLoop (csub (cd Try.f10) [1,1,0,1,0,0]), .inBlock 0, .code (csub (cd Try.f10) [1,1,1])] [(0, u), (3, v30), (4, .int .i64 (((k + 1) : Nat) : Int))] w31 (by kernel_rfl) (.cons o37 .nil) ?_
      have hM38 : Mem [] w0 w31 (⟨40, 2, v30, (List.length ((List.take k L) ++ [((List.getD L k zp).1, (List.getD L k zp).2)])), (pcells ((List.take k L) ++ [((List.getD L k zp).1, (List.getD L k zp).2)]) (updX Y (List.length (List.take k L)) v18))⟩ :: ⟨3, 1, v18, (List.length ((List.getD L k zp).2)), (ivals .i64 ((List.getD L k zp).2))⟩ :: (atR 3 Y (List.take k L) 0 (List.length (List.take k L)))) := hM36.perm ((List.Perm.cons _ (List.Perm.refl _)).trans (List.Perm.swap _ _ _))
      have hM39 : Mem [] w0 w31 (⟨3, 1, v18, (List.length ((List.getD L k zp).2)), (ivals .i64 ((List.getD L k zp).2))⟩ :: ⟨40, 2, v30, (List.length ((List.take k L) ++ [((List.getD L k zp).1, (List.getD L k zp).2)])), (pcells ((List.take k L) ++ [((List.getD L k zp).1, (List.getD L k zp).2)]) (updX Y (List.length (List.take k L)) v18))⟩ :: (atR 3 Y (List.take k L) 0 (List.length (List.take k L)))) := hM38.perm ((List.Perm.cons _ (List.Perm.refl _)).trans (List.Perm.swap _ _ _))
      have hM40 := Mem.toTail (A := [⟨40, 2, v30, (List.length ((List.take k L) ++ [((List.getD L k zp).1, (List.getD L k zp).2)])), (pcells ((List.take k L) ++ [((List.getD L k zp).1, (List.getD L k zp).2)]) (updX Y (List.length (List.take k L)) v18))⟩]) hM39
      exact ih (k + 1) (updX Y (List.length (List.take k L)) v18) _ _ (by omega) (hM40.cast (by rw [take_ps (by omega), atR_snoc]; rfl)) (by omega)
    ·
      have h2p : ¬ (((k : Nat) : Int) < (((List.length L) : Nat) : Int)) := of_decide_eq_false h2
      refine GoS.run [2] [.n, .n, .n, .n, .n, .n] _ [.code (csub (cd Try.f10) [1,1,1,1])] [(2, v)] w (by kernel_rfl) .nil ?_
      refine GoS.ret (fn := Try.f10) (v := v) Try.func10 (by kernel_rfl) ?_
      rw [hR]
      obtain rfl : k = L.length := by omega
      exact ⟨_, _, rfl, hM.cast (by rw [List.take_length])⟩

set_option maxHeartbeats 400000 in
theorem copy_c {w : World} (u : Value) (L : PS) (X : Nat → Value) (hu : Rd w 2 u L.length (pcells L X)) (hX : ∀ j, j < L.length → Rd w 1 (X j) (L.getD j zp).2.length (ivals .i64 (L.getD j zp).2)) (hLr : L.length * 32 ≤ 140737488351232) (hAr : ∀ j, j < L.length → (L.getD j zp).2.length * 8 ≤ 140737488351232) :
    Calls Try.prog 10 #[u] w (fun e w' => ∃ v Y, e = .returned v ∧ Mem [] w w' (⟨40, 2, v, (List.length L), (pcells L Y)⟩ :: (atR 3 Y L 0 (List.length L)))) := by
  obtain ⟨R, hR⟩ : ∃ R : Ending → World → Prop, R = (fun e w' => ∃ v Y, e = .returned v ∧ Mem [] w w' (⟨40, 2, v, (List.length L), (pcells L Y)⟩ :: (atR 3 Y L 0 (List.length L)))) := ⟨_, rfl⟩
  rw [← hR]
  refine GoS.enter (n := 28) Try.func10 (by kernel_rfl) rfl [(0, u)] (by kernel_rfl) (by kernel_rfl) ?_
  have hM0 := Mem.start w
  refine GoS.run [0, 3, 4] [.n, .n, .n, .n, .n, .n, .n, .n, .n, .n, .n, .n, .n, .n, .n] _ [.code (csub (cd Try.f10) [1,1,0,1,0,0]), .inLoop (csub (cd Try.f10) [1,1,0,1,0,0]), .inBlock 0, .code (csub (cd Try.f10) [1,1,1])] [(0, u), (3, .slice none 0 0), (4, .int .i64 0)] w (by kernel_rfl) .nil ?_
  have hM1 := hM0.nilrow 40 2
  exact copy_L u L X hu hX hLr hAr R hR (L.length + 1) 0 (fun _ => Value.slice none 0 0) (.slice none 0 0) w (by omega) hM1 (by omega)


end Go.Proofs.Ythimiheeheaaaaa
