/-
  The walks of Decode, of the program and of the reference.
-/
import Derived.Test.YtnhplkkbpmijdaaUtfR
import Derived.Test.YtnhplkkbpmijdaaHeld
namespace Go.Proofs.Ytnhplkkbpmijdaa
open Go Go.Gw Go.UtfP Go.TokP Go.RowKit
set_option linter.unusedVariables false
set_option linter.unusedSimpArgs false


set_option maxHeartbeats 400000 in
theorem decode_L (s : List UInt8) {w0 : World} (hs : s.length * 8 ≤ 140737488355328) (R : Ending → World → Prop) (hR : R = (fun e w' => ∃ v, e = .returned (.tuple #[v, .int .i64 (decE s)]) ∧ Mem [] w0 w' [⟨3, 1, v, (decL s).length, ivals .i64 (decL s)⟩])) : ∀ (N : Nat) (r : List UInt8) (l : List Int) (b : Value) (w : World) (hd : decF r.length l r = dec s) (hl : l.length + r.length ≤ s.length) (hM : Mem [] w0 w [⟨3, 1, b, (List.length l), (ivals .i64 l)⟩]) (hN : r.length < N), GoS Try.prog 33 R 25 [.code (csub (cd Try.f33) [1,1,0,0,0]), .inLoop (csub (cd Try.f33) [1,1,0,0,0]), .inBlock 0, .code (csub (cd Try.f33) [1,1,1])] [(0, .string (sb r)), (4, b)] w := by
  intro N
  induction N with
  | zero => intro r l b w hd hl hM hN; exact absurd hN (Nat.not_lt_zero _)
  | succ N ih =>
    intro r l b w hd hl hM hN
    have o1 : (binOp .neq 9 (.string (sb r)) (.string (sb ([])))).run Try.prog w = .ok (.bool (!(decide (r = [])))) w := f_strneq
    refine GoS.run [0, 4, 9] [.n, .n, .n, .n, .h (.bool (!(decide (r = [])))), .n] _ [.code (csub (cd Try.f33) [1,1,0,0,0,0,1]), .code (csub (cd Try.f33) [1,1,0,0,0,1]), .inLoop (csub (cd Try.f33) [1,1,0,0,0]), .inBlock 0, .code (csub (cd Try.f33) [1,1,1])] [(0, .string (sb r)), (4, b), (9, .bool (!(decide (r = []))))] w (by kernel_rfl) (.cons o1 .nil) ?_
    refine GoS.cond (!(decide (r = []))) [.code (csub (cd Try.f33) [1,1,0,0,0,0,1,0]), .code (csub (cd Try.f33) [1,1,0,0,0,1]), .inLoop (csub (cd Try.f33) [1,1,0,0,0]), .inBlock 0, .code (csub (cd Try.f33) [1,1,1])] [.code (csub (cd Try.f33) [1,1,0,0,0,0,1,1]), .code (csub (cd Try.f33) [1,1,0,0,0,1]), .inLoop (csub (cd Try.f33) [1,1,0,0,0]), .inBlock 0, .code (csub (cd Try.f33) [1,1,1])] (by kernel_rfl) (fun h2 => ?_) (fun h2 => ?_)
    ·
      have h2p : ¬ (r = []) := of_decide_eq_false (p_nf h2)
      refine GoS.run [0, 4] [.n] _ [.code (csub (cd Try.f33) [1,1,0,0,0,1]), .inLoop (csub (cd Try.f33) [1,1,0,0,0]), .inBlock 0, .code (csub (cd Try.f33) [1,1,1])] [(0, .string (sb r)), (4, b)] w (by kernel_rfl) .nil ?_
      refine GoS.run [0, 4, 11] [.n, .n, .n, .n] _ [.inRegion (cops (csub (cd Try.f33) [1,1,0,0,0,1,0,0])) [1,2,3,4,5,6], .code (csub (cd Try.f33) [1,1,0,0,0,1,0,1]), .inBlock 1, .inLoop (csub (cd Try.f33) [1,1,0,0,0]), .inBlock 0, .code (csub (cd Try.f33) [1,1,1])] [(0, .string (sb r)), (4, b), (11, .string (sb r))] w (by kernel_rfl) .nil ?_
      refine GoS.call [0, 4] 43 #[.string (sb r)] (some 12) [.inRegion (cops (csub (cd Try.f33) [1,1,0,0,0,1,0,0])) [2,3,4,5,6], .code (csub (cd Try.f33) [1,1,0,0,0,1,0,1]), .inBlock 1, .inLoop (csub (cd Try.f33) [1,1,0,0,0]), .inBlock 0, .code (csub (cd Try.f33) [1,1,1])] [(0, .string (sb r)), (4, b)] (by kernel_rfl) (first_c r (by exact List.length_pos_iff.2 h2p) w) ?_
      rintro _ _ ⟨rfl, rfl⟩
      refine ⟨_, rfl, ?_⟩
      have hb := firstP_n (s := r) (by exact List.length_pos_iff.2 h2p)
      refine GoS.run [0, 4, 5, 6, 16] [.n, .n, .n, .n, .n, .n, .n, .n, .n, .n, .n, .n] _ [.code (csub (cd Try.f33) [1,1,0,0,0,1,0,1,0,1]), .code (csub (cd Try.f33) [1,1,0,0,0,1,0,1,1]), .inBlock 1, .inLoop (csub (cd Try.f33) [1,1,0,0,0]), .inBlock 0, .code (csub (cd Try.f33) [1,1,1])] [(0, .string (sb r)), (4, b), (5, .int .i64 ((firstP r).1)), (6, .int .i64 ((firstP r).2)), (16, .bool ((firstP r).2 == 0))] w (by kernel_rfl) .nil ?_
      refine GoS.cond ((firstP r).2 == 0) [.code (csub (cd Try.f33) [1,1,0,0,0,1,0,1,0,1,0]), .code (csub (cd Try.f33) [1,1,0,0,0,1,0,1,1]), .inBlock 1, .inLoop (csub (cd Try.f33) [1,1,0,0,0]), .inBlock 0, .code (csub (cd Try.f33) [1,1,1])] [.code (csub (cd Try.f33) [1,1,0,0,0,1,0,1,0,1,1]), .code (csub (cd Try.f33) [1,1,0,0,0,1,0,1,1]), .inBlock 1, .inLoop (csub (cd Try.f33) [1,1,0,0,0]), .inBlock 0, .code (csub (cd Try.f33) [1,1,1])] (by kernel_rfl) (fun h3 => ?_) (fun h3 => ?_)
      ·
        have h3p : (firstP r).2 = 0 := eq_of_beq h3
        have hM4 : Mem [] w0 w [] := hM.sub (List.Sublist.cons _ (List.Sublist.refl _))
        refine GoS.run [2, 3] [.n, .n, .n, .n, .n] _ [.code (csub (cd Try.f33) [1,1,0,0,0,1,0,1,0,1,0,1]), .code (csub (cd Try.f33) [1,1,0,0,0,1,0,1,1]), .inBlock 1, .inLoop (csub (cd Try.f33) [1,1,0,0,0]), .inBlock 0, .code (csub (cd Try.f33) [1,1,1])] [(2, .slice none 0 0), (3, .int .i64 7)] w (by kernel_rfl) .nil ?_
        refine GoS.ret (fn := Try.f33) (v := (.tuple #[.slice none 0 0, .int .i64 7])) Try.func33 (by kernel_rfl) ?_
        rw [hR]
        obtain ⟨e1, e2⟩ := dec_no hd h2p h3p
        exact ⟨_, by rw [e2], by rw [e1]; exact hM4.nilrow 3 1⟩
      ·
        have h3p : ¬ ((firstP r).2 = 0) := p_ne h3
        refine GoS.run [0, 4, 5, 6] [.n] _ [.code (csub (cd Try.f33) [1,1,0,0,0,1,0,1,1]), .inBlock 1, .inLoop (csub (cd Try.f33) [1,1,0,0,0]), .inBlock 0, .code (csub (cd Try.f33) [1,1,1])] [(0, .string (sb r)), (4, b), (5, .int .i64 ((firstP r).1)), (6, .int .i64 ((firstP r).2))] w (by kernel_rfl) .nil ?_
        obtain ⟨v5, w6, hr7, hM8⟩ := m_lit sT46 hM (n := 1) (parts := #[(0, .int .i64 ((firstP r).1))]) (cs := [.int .i64 ((firstP r).1)]) (by decide) (by kernel_rfl) rfl
        obtain ⟨v9, w10, hr11, hM12⟩ := m_append sT46 hM8 1 rfl (hM8.rd 0 rfl) (by intro u hu; simp at hu; rcases hu with rfl <;> rfl) (by have hp := List.length_pos_iff.2 h2p; (try dsimp only); omega) (by have hp := List.length_pos_iff.2 h2p; (try dsimp only); omega) 46
        have hM13 : Mem [] w0 w10 [⟨3, 1, v5, 1, [.int .i64 ((firstP r).1)]⟩, ⟨3, 1, v9, (List.length (l ++ ([(firstP r).1] : List Int))), (ivals .i64 (l ++ ([(firstP r).1] : List Int)))⟩] := hM12.cast (by simp [ivals, svals, bvals, nvals, u8s, Nat.add_assoc])
        have o14 : (Instr.sliceAt 9 (.string (sb r)) (some (.int .i64 ((firstP r).2))) none none).run Try.prog w10 = .ok (.string (sb (List.drop (Int.toNat ((firstP r).2)) r))) w10 := f_slice_lo (Int.toNat ((firstP r).2)) (by kernel_rfl) (by omega) (by omega)
        have hM15 : Mem [] w0 w10 [⟨3, 1, v9, (List.length (l ++ ([(firstP r).1] : List Int))), (ivals .i64 (l ++ ([(firstP r).1] : List Int)))⟩] := hM13.sub (List.Sublist.cons _ (List.Sublist.cons_cons _ (List.Sublist.refl _)))
        refine GoS.run [0, 4] [.n, .n, .n, .n, .u (v5) (w6), .u (v9) (w10), .n, .n, .n, .n, .n, .h (.string (sb (List.drop (Int.toNat ((firstP r).2)) r))), .n, .n, .n, .n] _ [.code (csub (cd Try.f33) [1,1,0,0,0]), .inLoop (csub (cd Try.f33) [1,1,0,0,0]), .inBlock 0, .code (csub (cd Try.f33) [1,1,1])] [(0, .string (sb (List.drop (Int.toNat ((firstP r).2)) r))), (4, v9)] w10 (by kernel_rfl) (.cons hr7 (.cons hr11 (.cons o14 .nil))) ?_
        have hr : r ≠ [] := h2p
        have hp := List.length_pos_iff.2 hr
        exact ih (List.drop (Int.toNat (firstP r).2) r) (l ++ [(firstP r).1]) _ _ ((dec_step2 (n := Int.toNat (firstP r).2) hr (by omega) (by omega)).symm.trans hd) (by rw [List.length_append, List.length_drop, List.length_singleton]; omega) hM15 (by rw [List.length_drop]; omega)
    ·
      have h2p : r = [] := of_decide_eq_true (p_nt h2)
      refine GoS.run [2, 3] [.n, .n, .n, .n, .n, .n, .n] _ [.code (csub (cd Try.f33) [1,1,1,1])] [(2, b), (3, .int .i64 0)] w (by kernel_rfl) .nil ?_
      refine GoS.ret (fn := Try.f33) (v := (.tuple #[b, .int .i64 0])) Try.func33 (by kernel_rfl) ?_
      rw [hR]
      obtain ⟨e1, e2⟩ := dec_yes hd (by simpa using h2)
      exact ⟨_, by rw [e2], by rw [e1]; exact hM⟩

set_option maxHeartbeats 400000 in
theorem decode_c (s : List UInt8) (hs : s.length * 8 ≤ 140737488355328) (w : World) :
    Calls Try.prog 33 #[.string (sb s)] w (fun e w' => ∃ v, e = .returned (.tuple #[v, .int .i64 (decE s)]) ∧ Mem [] w w' [⟨3, 1, v, (decL s).length, ivals .i64 (decL s)⟩]) := by
  obtain ⟨R, hR⟩ : ∃ R : Ending → World → Prop, R = (fun e w' => ∃ v, e = .returned (.tuple #[v, .int .i64 (decE s)]) ∧ Mem [] w w' [⟨3, 1, v, (decL s).length, ivals .i64 (decL s)⟩]) := ⟨_, rfl⟩
  rw [← hR]
  refine GoS.enter (n := 25) Try.func33 (by kernel_rfl) rfl [(0, .string (sb s))] (by kernel_rfl) (by kernel_rfl) ?_
  have hM0 := Mem.start w
  obtain ⟨v1, w2, hr3, hM4⟩ := m_lit sT46 hM0 (n := 0) (parts := #[]) (cs := []) (by decide) (by kernel_rfl) rfl
  refine GoS.run [0, 4] [.n, .n, .n, .n, .n, .n, .n, .u (v1) (w2), .n, .n, .n, .n, .n] _ [.code (csub (cd Try.f33) [1,1,0,0,0]), .inLoop (csub (cd Try.f33) [1,1,0,0,0]), .inBlock 0, .code (csub (cd Try.f33) [1,1,1])] [(0, .string (sb s)), (4, v1)] w2 (by kernel_rfl) (.cons hr3 .nil) ?_
  exact decode_L s hs R hR (s.length + 1) s [] v1 w2 rfl (by simp) (hM4.cast (by simp [ivals])) (by omega)

set_option maxHeartbeats 400000 in
theorem rdecode_L2 (s : List UInt8) (l : List Int) {w0 : World} {a : Nat} (hs : s.length * 8 ≤ 140737488355328) (hl : l.length ≤ a) (hd : decF (s.drop a).length l (s.drop a) = dec s) (R : Ending → World → Prop) (hR : R = (fun e w' => ∃ v, e = .returned (.tuple #[v, .int .i64 (decE s)]) ∧ Mem [] w0 w' [⟨3, 1, v, (decL s).length, ivals .i64 (decL s)⟩])) : ∀ (N : Nat) (b : Value) (n : Nat) (w : World) (out : ∀ (a' : Nat) (l : List Int) (b : Value) (w : World), a < a' → a' ≤ s.length → l.length ≤ a' → decF (s.drop a').length l (s.drop a') = dec s → Mem [] w0 w [⟨3, 1, b, (List.length l), (ivals .i64 l)⟩] → GoS Try.prog 39 R 62 [.code (csub (cd Try.f39) [1,1,1,0,0,0]), .inLoop (csub (cd Try.f39) [1,1,1,0,0,0]), .inBlock 0, .code (csub (cd Try.f39) [1,1,1,1])] [(0, .string (sb s)), (4, b), (5, .int .i64 ((a' : Nat) : Int))] w) (ha : a < s.length) (hn : 1 ≤ n) (hn5 : n ≤ 5) (hno : ∀ m : Nat, 0 < m → m < n → m ≤ 4 → a + m ≤ s.length → (firstP (s.drop a)).2 ≠ (m : Int)) (hM : Mem [] w0 w [⟨3, 1, b, (List.length l), (ivals .i64 l)⟩]) (hN : 5 - n < N), GoS Try.prog 39 R 62 [.code (csub (cd Try.f39) [1,1,1,0,0,0,1,0,1,0,0,0]), .inLoop (csub (cd Try.f39) [1,1,1,0,0,0,1,0,1,0,0,0]), .inBlock 2, .code (csub (cd Try.f39) [1,1,1,0,0,0,1,0,1,1]), .inBlock 1, .inLoop (csub (cd Try.f39) [1,1,1,0,0,0]), .inBlock 0, .code (csub (cd Try.f39) [1,1,1,1])] [(0, .string (sb s)), (4, b), (5, .int .i64 ((a : Nat) : Int)), (6, .int .i64 ((n : Nat) : Int))] w := by
  intro N
  induction N with
  | zero => intro b n w out ha hn hn5 hno hM hN; exact absurd hN (Nat.not_lt_zero _)
  | succ N ih =>
    intro b n w out ha hn hn5 hno hM hN
    refine GoS.run [0, 4, 5, 6, 14] [.n, .n, .n, .n, .n, .n] _ [.inRegion (cops (csub (cd Try.f39) [1,1,1,0,0,0,1,0,1,0,0,0,0,0])) [3,4,5,6,7,8,9], .code (csub (cd Try.f39) [1,1,1,0,0,0,1,0,1,0,0,0,0,1]), .code (csub (cd Try.f39) [1,1,1,0,0,0,1,0,1,0,0,0,1]), .inLoop (csub (cd Try.f39) [1,1,1,0,0,0,1,0,1,0,0,0]), .inBlock 2, .code (csub (cd Try.f39) [1,1,1,0,0,0,1,0,1,1]), .inBlock 1, .inLoop (csub (cd Try.f39) [1,1,1,0,0,0]), .inBlock 0, .code (csub (cd Try.f39) [1,1,1,1])] [(0, .string (sb s)), (4, b), (5, .int .i64 ((a : Nat) : Int)), (6, .int .i64 ((n : Nat) : Int)), (14, .bool (decide (((n : Nat) : Int) ≤ 4)))] w (by kernel_rfl) .nil ?_
    refine GoS.fork 14 (decide (((n : Nat) : Int) ≤ 4)) (by kernel_rfl) (fun h1 => ?_) (fun h1 => ?_)
    ·
      have h1p : ((n : Nat) : Int) ≤ 4 := of_decide_eq_true h1
      have o2 : (binOp .add 3 (.int .i64 ((a : Nat) : Int)) (.int .i64 ((n : Nat) : Int))).run Try.prog w = .ok (.int .i64 (((a + n) : Nat) : Int)) w := f_add (by rw [show ((a : Nat) : Int) + ((n : Nat) : Int) = (((a + n) : Nat) : Int) by omega]; exact IntWalk.i64_in _ (by omega))
      have o3 : (Builtin.len_ #[9] 3 #[.string (sb s)]).run Try.prog w = .ok (.int .i64 ((s.length : Nat) : Int)) w := f_len (by kernel_rfl)
      refine GoS.run [0, 4, 5, 6, 21] [.n, .n, .h (.int .i64 (((a + n) : Nat) : Int)), .n, .h (.int .i64 ((s.length : Nat) : Int)), .n, .n] _ [.inRegion (cops (csub (cd Try.f39) [1,1,1,0,0,0,1,0,1,0,0,0,0,0])) [], .code (csub (cd Try.f39) [1,1,1,0,0,0,1,0,1,0,0,0,0,1]), .code (csub (cd Try.f39) [1,1,1,0,0,0,1,0,1,0,0,0,1]), .inLoop (csub (cd Try.f39) [1,1,1,0,0,0,1,0,1,0,0,0]), .inBlock 2, .code (csub (cd Try.f39) [1,1,1,0,0,0,1,0,1,1]), .inBlock 1, .inLoop (csub (cd Try.f39) [1,1,1,0,0,0]), .inBlock 0, .code (csub (cd Try.f39) [1,1,1,1])] [(0, .string (sb s)), (4, b), (5, .int .i64 ((a : Nat) : Int)), (6, .int .i64 ((n : Nat) : Int)), (21, .bool (decide ((((a + n) : Nat) : Int) ≤ ((s.length : Nat) : Int))))] w (by kernel_rfl) (.cons o2 (.cons o3 .nil)) ?_
      refine GoS.run [0, 4, 5, 6, 21] [.n] _ [.code (csub (cd Try.f39) [1,1,1,0,0,0,1,0,1,0,0,0,0,1]), .code (csub (cd Try.f39) [1,1,1,0,0,0,1,0,1,0,0,0,1]), .inLoop (csub (cd Try.f39) [1,1,1,0,0,0,1,0,1,0,0,0]), .inBlock 2, .code (csub (cd Try.f39) [1,1,1,0,0,0,1,0,1,1]), .inBlock 1, .inLoop (csub (cd Try.f39) [1,1,1,0,0,0]), .inBlock 0, .code (csub (cd Try.f39) [1,1,1,1])] [(0, .string (sb s)), (4, b), (5, .int .i64 ((a : Nat) : Int)), (6, .int .i64 ((n : Nat) : Int)), (21, .bool (decide ((((a + n) : Nat) : Int) ≤ ((s.length : Nat) : Int))))] w (by kernel_rfl) .nil ?_
      refine GoS.cond (decide ((((a + n) : Nat) : Int) ≤ ((s.length : Nat) : Int))) [.code (csub (cd Try.f39) [1,1,1,0,0,0,1,0,1,0,0,0,0,1,0]), .code (csub (cd Try.f39) [1,1,1,0,0,0,1,0,1,0,0,0,1]), .inLoop (csub (cd Try.f39) [1,1,1,0,0,0,1,0,1,0,0,0]), .inBlock 2, .code (csub (cd Try.f39) [1,1,1,0,0,0,1,0,1,1]), .inBlock 1, .inLoop (csub (cd Try.f39) [1,1,1,0,0,0]), .inBlock 0, .code (csub (cd Try.f39) [1,1,1,1])] [.code (csub (cd Try.f39) [1,1,1,0,0,0,1,0,1,0,0,0,0,1,1]), .code (csub (cd Try.f39) [1,1,1,0,0,0,1,0,1,0,0,0,1]), .inLoop (csub (cd Try.f39) [1,1,1,0,0,0,1,0,1,0,0,0]), .inBlock 2, .code (csub (cd Try.f39) [1,1,1,0,0,0,1,0,1,1]), .inBlock 1, .inLoop (csub (cd Try.f39) [1,1,1,0,0,0]), .inBlock 0, .code (csub (cd Try.f39) [1,1,1,1])] (by kernel_rfl) (fun h4 => ?_) (fun h4 => ?_)
      ·
        have h4p : (((a + n) : Nat) : Int) ≤ ((s.length : Nat) : Int) := of_decide_eq_true h4
        refine GoS.run [0, 4, 5, 6] [.n] _ [.code (csub (cd Try.f39) [1,1,1,0,0,0,1,0,1,0,0,0,1]), .inLoop (csub (cd Try.f39) [1,1,1,0,0,0,1,0,1,0,0,0]), .inBlock 2, .code (csub (cd Try.f39) [1,1,1,0,0,0,1,0,1,1]), .inBlock 1, .inLoop (csub (cd Try.f39) [1,1,1,0,0,0]), .inBlock 0, .code (csub (cd Try.f39) [1,1,1,1])] [(0, .string (sb s)), (4, b), (5, .int .i64 ((a : Nat) : Int)), (6, .int .i64 ((n : Nat) : Int))] w (by kernel_rfl) .nil ?_
        have o10 : (binOp .add 3 (.int .i64 ((a : Nat) : Int)) (.int .i64 ((n : Nat) : Int))).run Try.prog w = .ok (.int .i64 (((a + n) : Nat) : Int)) w := f_add (by rw [show ((a : Nat) : Int) + ((n : Nat) : Int) = (((a + n) : Nat) : Int) by omega]; exact IntWalk.i64_in _ (by omega))
        have o11 : (Instr.sliceAt 9 (.string (sb s)) (some (.int .i64 ((a : Nat) : Int))) (some (.int .i64 (((a + n) : Nat) : Int))) none).run Try.prog w = .ok (.string (sb (List.drop a (List.take (a + n) s)))) w := f_slice_lohi a (a + n) (by kernel_rfl) (by omega) (by omega) (by first | omega | (rw [List.length_drop, List.length_take]; omega)) (by first | omega | (rw [List.length_drop, List.length_take]; omega))
        refine GoS.run [0, 4, 5, 6, 27] [.n, .n, .n, .n, .n, .n, .n, .h (.int .i64 (((a + n) : Nat) : Int)), .h (.string (sb (List.drop a (List.take (a + n) s))))] _ [.inRegion (cops (csub (cd Try.f39) [1,1,1,0,0,0,1,0,1,0,0,0,1,0,0])) [6,7], .code (csub (cd Try.f39) [1,1,1,0,0,0,1,0,1,0,0,0,1,0,1]), .inBlock 3, .inLoop (csub (cd Try.f39) [1,1,1,0,0,0,1,0,1,0,0,0]), .inBlock 2, .code (csub (cd Try.f39) [1,1,1,0,0,0,1,0,1,1]), .inBlock 1, .inLoop (csub (cd Try.f39) [1,1,1,0,0,0]), .inBlock 0, .code (csub (cd Try.f39) [1,1,1,1])] [(0, .string (sb s)), (4, b), (5, .int .i64 ((a : Nat) : Int)), (6, .int .i64 ((n : Nat) : Int)), (27, .string (sb (List.drop a (List.take (a + n) s))))] w (by kernel_rfl) (.cons o10 (.cons o11 .nil)) ?_
        refine GoS.call [0, 4, 5, 6] 46 #[.string (sb (List.drop a (List.take (a + n) s)))] (some 28) [.inRegion (cops (csub (cd Try.f39) [1,1,1,0,0,0,1,0,1,0,0,0,1,0,0])) [7], .code (csub (cd Try.f39) [1,1,1,0,0,0,1,0,1,0,0,0,1,0,1]), .inBlock 3, .inLoop (csub (cd Try.f39) [1,1,1,0,0,0,1,0,1,0,0,0]), .inBlock 2, .code (csub (cd Try.f39) [1,1,1,0,0,0,1,0,1,1]), .inBlock 1, .inLoop (csub (cd Try.f39) [1,1,1,0,0,0]), .inBlock 0, .code (csub (cd Try.f39) [1,1,1,1])] [(0, .string (sb s)), (4, b), (5, .int .i64 ((a : Nat) : Int)), (6, .int .i64 ((n : Nat) : Int))] (by kernel_rfl) (guess_c (List.drop a (List.take (a + n) s)) (by rw [List.length_drop, List.length_take]; omega) (by rw [List.length_drop, List.length_take]; omega) w) ?_
        rintro _ w12 ⟨rfl, m13⟩
        refine ⟨_, rfl, ?_⟩
        have hM14 := Mem.join hM m13
        refine GoS.run [0, 4, 5, 6, 7] [.n, .n, .n, .n] _ [.code (csub (cd Try.f39) [1,1,1,0,0,0,1,0,1,0,0,0,1,0,1,0,0]), .code (csub (cd Try.f39) [1,1,1,0,0,0,1,0,1,0,0,0,1,0,1,0,1]), .code (csub (cd Try.f39) [1,1,1,0,0,0,1,0,1,0,0,0,1,0,1,1]), .inBlock 3, .inLoop (csub (cd Try.f39) [1,1,1,0,0,0,1,0,1,0,0,0]), .inBlock 2, .code (csub (cd Try.f39) [1,1,1,0,0,0,1,0,1,1]), .inBlock 1, .inLoop (csub (cd Try.f39) [1,1,1,0,0,0]), .inBlock 0, .code (csub (cd Try.f39) [1,1,1,1])] [(0, .string (sb s)), (4, b), (5, .int .i64 ((a : Nat) : Int)), (6, .int .i64 ((n : Nat) : Int)), (7, .int .i64 (guessP (List.drop a (List.take (a + n) s))))] w12 (by kernel_rfl) .nil ?_
        obtain ⟨w15, hw16⟩ : ∃ w_, (w12).drewN 1 = w_ := ⟨_, rfl⟩
        refine GoS.held (fun W_ => Mem [] w0 W_ [⟨3, 1, b, (List.length l), (ivals .i64 l)⟩]) [] 7 (by kernel_rfl) (by kernel_rfl) 13 (by kernel_rfl) ?_
        rw [hw16]
        have hM17 : Mem [] w0 w15 [⟨3, 1, b, (List.length l), (ivals .i64 l)⟩] := hw16 ▸ hM14.ext (Kept.drewN _ _ 1)
        have hS18 : Mem [] w0 w15 [⟨3, 1, b, (List.length l), (ivals .i64 l)⟩] := hM17.sub (List.Sublist.cons_cons _ (List.Sublist.refl _))
        refine GoH.takeV 0 (.int .i64 (guessP (List.drop a (List.take (a + n) s)))) (.int .i64 (guessP (List.drop a (List.take (a + n) s)))) (some 29) (fun W_ => by kernel_rfl) rfl hS18 ?_
        refine GoH.callF 1 47 #[.int .i64 (guessP (List.drop a (List.take (a + n) s)))] (some 30) (by kernel_rfl) (rwhole_c (guessP (List.drop a (List.take (a + n) s))) w15) ?_
        rintro _ _ ⟨rfl, rfl⟩
        have hS19 : Mem [] w0 w15 [⟨3, 1, b, (List.length l), (ivals .i64 l)⟩] := hM17.sub (List.Sublist.cons_cons _ (List.Sublist.refl _))
        refine ⟨.bool (whole (guessP (List.drop a (List.take (a + n) s)))), rfl, .inr hS19, ?_⟩
        rcases Bool.eq_false_or_eq_true (whole (guessP (List.drop a (List.take (a + n) s)))) with h20 | h20
        ·
          have h20p : 0 ≤ (guessP (List.drop a (List.take (a + n) s))) ∧ (guessP (List.drop a (List.take (a + n) s))) ≤ 1114111 ∧ ((guessP (List.drop a (List.take (a + n) s))) < 55296 ∨ (guessP (List.drop a (List.take (a + n) s))) > 57343) := whole_iff.1 h20
          refine GoH.takeV 2 (.bool (whole (guessP (List.drop a (List.take (a + n) s))))) (.bool true) (some 31) (fun W_ => by kernel_rfl) (congrArg Value.bool h20) hS19 ?_
          refine GoH.takeV 3 (.int .i64 (guessP (List.drop a (List.take (a + n) s)))) (.int .i64 (guessP (List.drop a (List.take (a + n) s)))) (some 32) (fun W_ => by kernel_rfl) rfl hS19 ?_
          refine GoH.takeV 5 (.string (sb s)) (.string (sb s)) (some 34) (fun W_ => by kernel_rfl) rfl hS19 ?_
          refine GoH.takeV 6 (.int .i64 ((a : Nat) : Int)) (.int .i64 ((a : Nat) : Int)) (some 35) (fun W_ => by kernel_rfl) rfl hS19 ?_
          refine GoH.takeV 7 (.int .i64 ((a : Nat) : Int)) (.int .i64 ((a : Nat) : Int)) (some 36) (fun W_ => by kernel_rfl) rfl hS19 ?_
          refine GoH.takeV 8 (.int .i64 ((n : Nat) : Int)) (.int .i64 ((n : Nat) : Int)) (some 37) (fun W_ => by kernel_rfl) rfl hS19 ?_
          refine GoH.takeF 9 (.int .i64 (((a + n) : Nat) : Int)) (fun W_ => (binOp .add 3 (.int .i64 ((a : Nat) : Int)) (.int .i64 ((n : Nat) : Int))).run Try.prog W_ = .ok (.int .i64 (((a + n) : Nat) : Int)) W_) (some 38) (fun W_ => by kernel_rfl) (fun W_ hW_ => f_add (by rw [show ((a : Nat) : Int) + ((n : Nat) : Int) = (((a + n) : Nat) : Int) by omega]; exact IntWalk.i64_in _ (by omega))) hS19 ?_
          refine GoH.takeF 10 (.string (sb (List.drop a (List.take (a + n) s)))) (fun W_ => (Instr.sliceAt 9 (.string (sb s)) (some (.int .i64 ((a : Nat) : Int))) (some (.int .i64 (((a + n) : Nat) : Int))) none).run Try.prog W_ = .ok (.string (sb (List.drop a (List.take (a + n) s)))) W_) (some 39) (fun W_ => by kernel_rfl) (fun W_ hW_ => f_slice_lohi a (a + n) (by kernel_rfl) (by omega) (by omega) (by first | omega | (rw [List.length_drop, List.length_take]; omega)) (by first | omega | (rw [List.length_drop, List.length_take]; omega))) hS19 ?_
          refine GoH.callF 4 48 #[.int .i64 (guessP (List.drop a (List.take (a + n) s)))] (some 33) (by kernel_rfl) (one_c (guessP (List.drop a (List.take (a + n) s))) h20 w15) ?_
          rintro _ w21 ⟨rfl, m22⟩
          have hM23 := Mem.join hM17 m22
          have hS24 : Mem [] w0 w21 [⟨3, 1, b, (List.length l), (ivals .i64 l)⟩] := hM23.sub (List.Sublist.cons_cons _ (List.Sublist.refl _))
          refine ⟨.string (sb (bytesOf (one (guessP (List.drop a (List.take (a + n) s)))))), rfl, .inr hS24, ?_⟩
          refine GoH.takeF 11 (.bool (decide ((bytesOf (one (guessP (List.drop a (List.take (a + n) s))))) = (List.drop a (List.take (a + n) s))))) (fun W_ => (binOp .eql 9 (.string (sb (bytesOf (one (guessP (List.drop a (List.take (a + n) s))))))) (.string (sb (List.drop a (List.take (a + n) s))))).run Try.prog W_ = .ok (.bool (decide ((bytesOf (one (guessP (List.drop a (List.take (a + n) s))))) = (List.drop a (List.take (a + n) s))))) W_) (some 40) (fun W_ => by kernel_rfl) (fun W_ hW_ => f_streq) hS24 ?_
          refine GoH.takeV 12 (.bool (decide ((bytesOf (one (guessP (List.drop a (List.take (a + n) s))))) = (List.drop a (List.take (a + n) s))))) (.bool (decide ((bytesOf (one (guessP (List.drop a (List.take (a + n) s))))) = (List.drop a (List.take (a + n) s))))) (some 41) (fun W_ => by kernel_rfl) rfl hS24 ?_
          refine GoH.done [0, 4, 5, 6, 7, 41] [(0, .string (sb s)), (4, b), (5, .int .i64 ((a : Nat) : Int)), (6, .int .i64 ((n : Nat) : Int)), (7, .int .i64 (guessP (List.drop a (List.take (a + n) s)))), (41, .bool (decide ((bytesOf (one (guessP (List.drop a (List.take (a + n) s))))) = (List.drop a (List.take (a + n) s)))))] (by kernel_rfl) (by kernel_rfl) ?_
          refine GoS.cond (decide ((bytesOf (one (guessP (List.drop a (List.take (a + n) s))))) = (List.drop a (List.take (a + n) s)))) [.code (csub (cd Try.f39) [1,1,1,0,0,0,1,0,1,0,0,0,1,0,1,0,1,0]), .code (csub (cd Try.f39) [1,1,1,0,0,0,1,0,1,0,0,0,1,0,1,1]), .inBlock 3, .inLoop (csub (cd Try.f39) [1,1,1,0,0,0,1,0,1,0,0,0]), .inBlock 2, .code (csub (cd Try.f39) [1,1,1,0,0,0,1,0,1,1]), .inBlock 1, .inLoop (csub (cd Try.f39) [1,1,1,0,0,0]), .inBlock 0, .code (csub (cd Try.f39) [1,1,1,1])] [.code (csub (cd Try.f39) [1,1,1,0,0,0,1,0,1,0,0,0,1,0,1,0,1,1]), .code (csub (cd Try.f39) [1,1,1,0,0,0,1,0,1,0,0,0,1,0,1,1]), .inBlock 3, .inLoop (csub (cd Try.f39) [1,1,1,0,0,0,1,0,1,0,0,0]), .inBlock 2, .code (csub (cd Try.f39) [1,1,1,0,0,0,1,0,1,1]), .inBlock 1, .inLoop (csub (cd Try.f39) [1,1,1,0,0,0]), .inBlock 0, .code (csub (cd Try.f39) [1,1,1,1])] (by kernel_rfl) (fun h25 => ?_) (fun h25 => ?_)
          ·
            have h25p : (bytesOf (one (guessP (List.drop a (List.take (a + n) s))))) = (List.drop a (List.take (a + n) s)) := of_decide_eq_true h25
            obtain ⟨v26, w27, hr28, hM29⟩ := m_lit sT46 hM23 (n := 1) (parts := #[(0, .int .i64 (guessP (List.drop a (List.take (a + n) s))))]) (cs := [.int .i64 (guessP (List.drop a (List.take (a + n) s)))]) (by decide) (by kernel_rfl) rfl
            obtain ⟨v30, w31, hr32, hM33⟩ := m_append sT46 hM29 1 rfl (hM29.rd 0 rfl) (by intro u hu; simp at hu; rcases hu with rfl <;> rfl) (by (try dsimp only); omega) (by (try dsimp only); omega) 46
            have hM34 : Mem [] w0 w31 [⟨3, 1, v26, 1, [.int .i64 (guessP (List.drop a (List.take (a + n) s)))]⟩, ⟨3, 1, v30, (List.length (l ++ ([(guessP (List.drop a (List.take (a + n) s)))] : List Int))), (ivals .i64 (l ++ ([(guessP (List.drop a (List.take (a + n) s)))] : List Int)))⟩] := hM33.cast (by first | (simp [ivals, svals, bvals, nvals, u8s, Nat.add_assoc]; done) | (simp [ivals, svals, bvals, nvals, u8s, Nat.add_assoc]; omega))
            have hM35 : Mem [] w0 w31 [⟨3, 1, v30, (List.length (l ++ ([(guessP (List.drop a (List.take (a + n) s)))] : List Int))), (ivals .i64 (l ++ ([(guessP (List.drop a (List.take (a + n) s)))] : List Int)))⟩] := hM34.sub (List.Sublist.cons _ (List.Sublist.cons_cons _ (List.Sublist.refl _)))
            refine GoS.run [0, 4, 5, 6, 50] [.n, .n, .n, .n, .u (v26) (w27), .u (v30) (w31), .n, .n, .n, .n, .n, .n, .n, .n, .n] _ [.inRegion (cops (csub (cd Try.f39) [1,1,1,0,0,0,1,0,1,1,0,0])) [3,4,5,6,7,8,9], .code (csub (cd Try.f39) [1,1,1,0,0,0,1,0,1,1,0,1]), .code (csub (cd Try.f39) [1,1,1,0,0,0,1,0,1,1,1]), .inBlock 1, .inLoop (csub (cd Try.f39) [1,1,1,0,0,0]), .inBlock 0, .code (csub (cd Try.f39) [1,1,1,1])] [(0, .string (sb s)), (4, v30), (5, .int .i64 ((a : Nat) : Int)), (6, .int .i64 ((n : Nat) : Int)), (50, .bool (decide (((n : Nat) : Int) > 4)))] w31 (by kernel_rfl) (.cons hr28 (.cons hr32 .nil)) ?_
            refine GoS.fork 50 (decide (((n : Nat) : Int) > 4)) (by kernel_rfl) (fun h36 => ?_) (fun h36 => ?_)
            ·
              have hz : ((n : Nat) : Int) > 4 := of_decide_eq_true h36
              omega
            ·
              have h36p : ¬ (((n : Nat) : Int) > 4) := of_decide_eq_false h36
              have o37 : (binOp .add 3 (.int .i64 ((a : Nat) : Int)) (.int .i64 ((n : Nat) : Int))).run Try.prog w31 = .ok (.int .i64 (((a + n) : Nat) : Int)) w31 := f_add (by rw [show ((a : Nat) : Int) + ((n : Nat) : Int) = (((a + n) : Nat) : Int) by omega]; exact IntWalk.i64_in _ (by omega))
              have o38 : (Builtin.len_ #[9] 3 #[.string (sb s)]).run Try.prog w31 = .ok (.int .i64 ((s.length : Nat) : Int)) w31 := f_len (by kernel_rfl)
              refine GoS.run [0, 4, 5, 6, 57] [.n, .n, .h (.int .i64 (((a + n) : Nat) : Int)), .n, .h (.int .i64 ((s.length : Nat) : Int)), .n, .n] _ [.inRegion (cops (csub (cd Try.f39) [1,1,1,0,0,0,1,0,1,1,0,0])) [], .code (csub (cd Try.f39) [1,1,1,0,0,0,1,0,1,1,0,1]), .code (csub (cd Try.f39) [1,1,1,0,0,0,1,0,1,1,1]), .inBlock 1, .inLoop (csub (cd Try.f39) [1,1,1,0,0,0]), .inBlock 0, .code (csub (cd Try.f39) [1,1,1,1])] [(0, .string (sb s)), (4, v30), (5, .int .i64 ((a : Nat) : Int)), (6, .int .i64 ((n : Nat) : Int)), (57, .bool (decide ((((a + n) : Nat) : Int) > ((s.length : Nat) : Int))))] w31 (by kernel_rfl) (.cons o37 (.cons o38 .nil)) ?_
              refine GoS.run [0, 4, 5, 6, 57] [.n] _ [.code (csub (cd Try.f39) [1,1,1,0,0,0,1,0,1,1,0,1]), .code (csub (cd Try.f39) [1,1,1,0,0,0,1,0,1,1,1]), .inBlock 1, .inLoop (csub (cd Try.f39) [1,1,1,0,0,0]), .inBlock 0, .code (csub (cd Try.f39) [1,1,1,1])] [(0, .string (sb s)), (4, v30), (5, .int .i64 ((a : Nat) : Int)), (6, .int .i64 ((n : Nat) : Int)), (57, .bool (decide ((((a + n) : Nat) : Int) > ((s.length : Nat) : Int))))] w31 (by kernel_rfl) .nil ?_
              refine GoS.cond (decide ((((a + n) : Nat) : Int) > ((s.length : Nat) : Int))) [.code (csub (cd Try.f39) [1,1,1,0,0,0,1,0,1,1,0,1,0]), .code (csub (cd Try.f39) [1,1,1,0,0,0,1,0,1,1,1]), .inBlock 1, .inLoop (csub (cd Try.f39) [1,1,1,0,0,0]), .inBlock 0, .code (csub (cd Try.f39) [1,1,1,1])] [.code (csub (cd Try.f39) [1,1,1,0,0,0,1,0,1,1,0,1,1]), .code (csub (cd Try.f39) [1,1,1,0,0,0,1,0,1,1,1]), .inBlock 1, .inLoop (csub (cd Try.f39) [1,1,1,0,0,0]), .inBlock 0, .code (csub (cd Try.f39) [1,1,1,1])] (by kernel_rfl) (fun h39 => ?_) (fun h39 => ?_)
              ·
                have hz : (((a + n) : Nat) : Int) > ((s.length : Nat) : Int) := of_decide_eq_true h39
                omega
              ·
                have h39p : ¬ ((((a + n) : Nat) : Int) > ((s.length : Nat) : Int)) := of_decide_eq_false h39
                refine GoS.run [0, 4, 5, 6] [.n] _ [.code (csub (cd Try.f39) [1,1,1,0,0,0,1,0,1,1,1]), .inBlock 1, .inLoop (csub (cd Try.f39) [1,1,1,0,0,0]), .inBlock 0, .code (csub (cd Try.f39) [1,1,1,1])] [(0, .string (sb s)), (4, v30), (5, .int .i64 ((a : Nat) : Int)), (6, .int .i64 ((n : Nat) : Int))] w31 (by kernel_rfl) .nil ?_
                have o40 : (binOp .add 3 (.int .i64 ((a : Nat) : Int)) (.int .i64 ((n : Nat) : Int))).run Try.prog w31 = .ok (.int .i64 (((a + n) : Nat) : Int)) w31 := f_add (by rw [show ((a : Nat) : Int) + ((n : Nat) : Int) = (((a + n) : Nat) : Int) by omega]; exact IntWalk.i64_in _ (by omega))
                refine GoS.run [0, 4, 5] [.n, .n, .n, .h (.int .i64 (((a + n) : Nat) : Int)), .n, .n, .n, .n] _ [.code (csub (cd Try.f39) [1,1,1,0,0,0]), .inLoop (csub (cd Try.f39) [1,1,1,0,0,0]), .inBlock 0, .code (csub (cd Try.f39) [1,1,1,1])] [(0, .string (sb s)), (4, v30), (5, .int .i64 (((a + n) : Nat) : Int))] w31 (by kernel_rfl) (.cons o40 .nil) ?_
                have ht : (List.drop a (List.take (a + n) s)) = (s.drop a).take n := by rw [List.drop_take]; congr 1; omega
                have e := guess_fits ht (by omega) h20 (of_decide_eq_true h25)
                have hne : s.drop a ≠ [] := by intro e3; have := congrArg List.length e3; rw [List.length_drop] at this; simp at this; omega
                refine out (a + n) _ _ _ (by omega) (by omega) (by rw [List.length_append, List.length_singleton]; omega) ?_ hM35
                rw [← hd, dec_step hne e (by omega), List.drop_drop]
          ·
            have h25p : ¬ ((bytesOf (one (guessP (List.drop a (List.take (a + n) s))))) = (List.drop a (List.take (a + n) s))) := of_decide_eq_false h25
            refine GoS.run [0, 4, 5, 6] [.n] _ [.code (csub (cd Try.f39) [1,1,1,0,0,0,1,0,1,0,0,0,1,0,1,1]), .inBlock 3, .inLoop (csub (cd Try.f39) [1,1,1,0,0,0,1,0,1,0,0,0]), .inBlock 2, .code (csub (cd Try.f39) [1,1,1,0,0,0,1,0,1,1]), .inBlock 1, .inLoop (csub (cd Try.f39) [1,1,1,0,0,0]), .inBlock 0, .code (csub (cd Try.f39) [1,1,1,1])] [(0, .string (sb s)), (4, b), (5, .int .i64 ((a : Nat) : Int)), (6, .int .i64 ((n : Nat) : Int))] w21 (by kernel_rfl) .nil ?_
            have o41 : (binOp .add 3 (.int .i64 ((n : Nat) : Int)) (.int .i64 1)).run Try.prog w21 = .ok (.int .i64 (((n + 1) : Nat) : Int)) w21 := f_add (by rw [show ((n : Nat) : Int) + 1 = (((n + 1) : Nat) : Int) by omega]; exact IntWalk.i64_in _ (by omega))
            refine GoS.run [0, 4, 5, 6] [.n, .n, .h (.int .i64 (((n + 1) : Nat) : Int)), .n, .n, .n, .n] _ [.code (csub (cd Try.f39) [1,1,1,0,0,0,1,0,1,0,0,0]), .inLoop (csub (cd Try.f39) [1,1,1,0,0,0,1,0,1,0,0,0]), .inBlock 2, .code (csub (cd Try.f39) [1,1,1,0,0,0,1,0,1,1]), .inBlock 1, .inLoop (csub (cd Try.f39) [1,1,1,0,0,0]), .inBlock 0, .code (csub (cd Try.f39) [1,1,1,1])] [(0, .string (sb s)), (4, b), (5, .int .i64 ((a : Nat) : Int)), (6, .int .i64 (((n + 1) : Nat) : Int))] w21 (by kernel_rfl) (.cons o41 .nil) ?_
            have ht : (List.drop a (List.take (a + n) s)) = (s.drop a).take n := by rw [List.drop_take]; congr 1; omega
            exact ih b (n + 1) _ out ha (by omega) (by omega) (fun m q1 q2 q3 q4 => by rcases Nat.lt_succ_iff_lt_or_eq.1 q2 with h | h; exact hno m q1 h q3 q4; subst h; exact guess_no ht (by omega) (by omega) (.inr (of_decide_eq_false h25))) hM23 (by omega)
        ·
          refine GoH.takeV 2 (.bool (whole (guessP (List.drop a (List.take (a + n) s))))) (.bool false) (some 31) (fun W_ => by kernel_rfl) (congrArg Value.bool h20) hS19 ?_
          refine GoH.skipF 3 (some 32) (by kernel_rfl) hS19 ?_
          refine GoH.skipF 4 (some 33) (by kernel_rfl) hS19 ?_
          refine GoH.skipF 5 (some 34) (by kernel_rfl) hS19 ?_
          refine GoH.skipF 6 (some 35) (by kernel_rfl) hS19 ?_
          refine GoH.skipF 7 (some 36) (by kernel_rfl) hS19 ?_
          refine GoH.skipF 8 (some 37) (by kernel_rfl) hS19 ?_
          refine GoH.skipF 9 (some 38) (by kernel_rfl) hS19 ?_
          refine GoH.skipF 10 (some 39) (by kernel_rfl) hS19 ?_
          refine GoH.skipF 11 (some 40) (by kernel_rfl) hS19 ?_
          refine GoH.takeV 12 (.bool false) (.bool false) (some 41) (fun W_ => by kernel_rfl) rfl hS19 ?_
          refine GoH.done [0, 4, 5, 6, 7, 41] [(0, .string (sb s)), (4, b), (5, .int .i64 ((a : Nat) : Int)), (6, .int .i64 ((n : Nat) : Int)), (7, .int .i64 (guessP (List.drop a (List.take (a + n) s)))), (41, .bool false)] (by kernel_rfl) (by kernel_rfl) ?_
          have o42 : (binOp .add 3 (.int .i64 ((n : Nat) : Int)) (.int .i64 1)).run Try.prog w15 = .ok (.int .i64 (((n + 1) : Nat) : Int)) w15 := f_add (by rw [show ((n : Nat) : Int) + 1 = (((n + 1) : Nat) : Int) by omega]; exact IntWalk.i64_in _ (by omega))
          refine GoS.run [0, 4, 5, 6] [.n, .n, .n, .n, .h (.int .i64 (((n + 1) : Nat) : Int)), .n, .n, .n, .n] _ [.code (csub (cd Try.f39) [1,1,1,0,0,0,1,0,1,0,0,0]), .inLoop (csub (cd Try.f39) [1,1,1,0,0,0,1,0,1,0,0,0]), .inBlock 2, .code (csub (cd Try.f39) [1,1,1,0,0,0,1,0,1,1]), .inBlock 1, .inLoop (csub (cd Try.f39) [1,1,1,0,0,0]), .inBlock 0, .code (csub (cd Try.f39) [1,1,1,1])] [(0, .string (sb s)), (4, b), (5, .int .i64 ((a : Nat) : Int)), (6, .int .i64 (((n + 1) : Nat) : Int))] w15 (by kernel_rfl) (.cons o42 .nil) ?_
          have ht : (List.drop a (List.take (a + n) s)) = (s.drop a).take n := by rw [List.drop_take]; congr 1; omega
          exact ih b (n + 1) _ out ha (by omega) (by omega) (fun m q1 q2 q3 q4 => by rcases Nat.lt_succ_iff_lt_or_eq.1 q2 with h | h; exact hno m q1 h q3 q4; subst h; exact guess_no ht (by omega) (by omega) (.inl h20)) hM17 (by omega)
      ·
        have h4p : ¬ ((((a + n) : Nat) : Int) ≤ ((s.length : Nat) : Int)) := of_decide_eq_false h4
        refine GoS.run [0, 4, 5, 6, 50] [.n, .n, .n, .n, .n, .n, .n] _ [.inRegion (cops (csub (cd Try.f39) [1,1,1,0,0,0,1,0,1,1,0,0])) [3,4,5,6,7,8,9], .code (csub (cd Try.f39) [1,1,1,0,0,0,1,0,1,1,0,1]), .code (csub (cd Try.f39) [1,1,1,0,0,0,1,0,1,1,1]), .inBlock 1, .inLoop (csub (cd Try.f39) [1,1,1,0,0,0]), .inBlock 0, .code (csub (cd Try.f39) [1,1,1,1])] [(0, .string (sb s)), (4, b), (5, .int .i64 ((a : Nat) : Int)), (6, .int .i64 ((n : Nat) : Int)), (50, .bool (decide (((n : Nat) : Int) > 4)))] w (by kernel_rfl) .nil ?_
        refine GoS.fork 50 (decide (((n : Nat) : Int) > 4)) (by kernel_rfl) (fun h5 => ?_) (fun h5 => ?_)
        ·
          have hz : ((n : Nat) : Int) > 4 := of_decide_eq_true h5
          omega
        ·
          have h5p : ¬ (((n : Nat) : Int) > 4) := of_decide_eq_false h5
          have o6 : (binOp .add 3 (.int .i64 ((a : Nat) : Int)) (.int .i64 ((n : Nat) : Int))).run Try.prog w = .ok (.int .i64 (((a + n) : Nat) : Int)) w := f_add (by rw [show ((a : Nat) : Int) + ((n : Nat) : Int) = (((a + n) : Nat) : Int) by omega]; exact IntWalk.i64_in _ (by omega))
          have o7 : (Builtin.len_ #[9] 3 #[.string (sb s)]).run Try.prog w = .ok (.int .i64 ((s.length : Nat) : Int)) w := f_len (by kernel_rfl)
          refine GoS.run [0, 4, 5, 6, 57] [.n, .n, .h (.int .i64 (((a + n) : Nat) : Int)), .n, .h (.int .i64 ((s.length : Nat) : Int)), .n, .n] _ [.inRegion (cops (csub (cd Try.f39) [1,1,1,0,0,0,1,0,1,1,0,0])) [], .code (csub (cd Try.f39) [1,1,1,0,0,0,1,0,1,1,0,1]), .code (csub (cd Try.f39) [1,1,1,0,0,0,1,0,1,1,1]), .inBlock 1, .inLoop (csub (cd Try.f39) [1,1,1,0,0,0]), .inBlock 0, .code (csub (cd Try.f39) [1,1,1,1])] [(0, .string (sb s)), (4, b), (5, .int .i64 ((a : Nat) : Int)), (6, .int .i64 ((n : Nat) : Int)), (57, .bool (decide ((((a + n) : Nat) : Int) > ((s.length : Nat) : Int))))] w (by kernel_rfl) (.cons o6 (.cons o7 .nil)) ?_
          refine GoS.run [0, 4, 5, 6, 57] [.n] _ [.code (csub (cd Try.f39) [1,1,1,0,0,0,1,0,1,1,0,1]), .code (csub (cd Try.f39) [1,1,1,0,0,0,1,0,1,1,1]), .inBlock 1, .inLoop (csub (cd Try.f39) [1,1,1,0,0,0]), .inBlock 0, .code (csub (cd Try.f39) [1,1,1,1])] [(0, .string (sb s)), (4, b), (5, .int .i64 ((a : Nat) : Int)), (6, .int .i64 ((n : Nat) : Int)), (57, .bool (decide ((((a + n) : Nat) : Int) > ((s.length : Nat) : Int))))] w (by kernel_rfl) .nil ?_
          refine GoS.cond (decide ((((a + n) : Nat) : Int) > ((s.length : Nat) : Int))) [.code (csub (cd Try.f39) [1,1,1,0,0,0,1,0,1,1,0,1,0]), .code (csub (cd Try.f39) [1,1,1,0,0,0,1,0,1,1,1]), .inBlock 1, .inLoop (csub (cd Try.f39) [1,1,1,0,0,0]), .inBlock 0, .code (csub (cd Try.f39) [1,1,1,1])] [.code (csub (cd Try.f39) [1,1,1,0,0,0,1,0,1,1,0,1,1]), .code (csub (cd Try.f39) [1,1,1,0,0,0,1,0,1,1,1]), .inBlock 1, .inLoop (csub (cd Try.f39) [1,1,1,0,0,0]), .inBlock 0, .code (csub (cd Try.f39) [1,1,1,1])] (by kernel_rfl) (fun h8 => ?_) (fun h8 => ?_)
          ·
            have h8p : (((a + n) : Nat) : Int) > ((s.length : Nat) : Int) := of_decide_eq_true h8
            have hM9 : Mem [] w0 w [] := hM.sub (List.Sublist.cons _ (List.Sublist.refl _))
            refine GoS.run [2, 3] [.n, .n, .n, .n, .n] _ [.code (csub (cd Try.f39) [1,1,1,0,0,0,1,0,1,1,0,1,0,1]), .code (csub (cd Try.f39) [1,1,1,0,0,0,1,0,1,1,1]), .inBlock 1, .inLoop (csub (cd Try.f39) [1,1,1,0,0,0]), .inBlock 0, .code (csub (cd Try.f39) [1,1,1,1])] [(2, .slice none 0 0), (3, .int .i64 7)] w (by kernel_rfl) .nil ?_
            refine GoS.ret (fn := Try.f39) (v := (.tuple #[.slice none 0 0, .int .i64 7])) Try.func39 (by kernel_rfl) ?_
            rw [hR]
            have e := first_none ha (by omega) hno
            obtain ⟨e1, e2⟩ := dec_no hd (by intro e3; have := congrArg List.length e3; rw [List.length_drop] at this; simp at this; omega) e
            exact ⟨_, by rw [e2], by rw [e1]; exact hM9.nilrow 3 1⟩
          ·
            have hz : ¬ ((((a + n) : Nat) : Int) > ((s.length : Nat) : Int)) := of_decide_eq_false h8
            omega
    ·
      have h1p : ¬ (((n : Nat) : Int) ≤ 4) := of_decide_eq_false h1
      refine GoS.run [0, 4, 5, 6, 21] [.n, .n, .n, .n, .n, .n, .n] _ [.inRegion (cops (csub (cd Try.f39) [1,1,1,0,0,0,1,0,1,0,0,0,0,0])) [], .code (csub (cd Try.f39) [1,1,1,0,0,0,1,0,1,0,0,0,0,1]), .code (csub (cd Try.f39) [1,1,1,0,0,0,1,0,1,0,0,0,1]), .inLoop (csub (cd Try.f39) [1,1,1,0,0,0,1,0,1,0,0,0]), .inBlock 2, .code (csub (cd Try.f39) [1,1,1,0,0,0,1,0,1,1]), .inBlock 1, .inLoop (csub (cd Try.f39) [1,1,1,0,0,0]), .inBlock 0, .code (csub (cd Try.f39) [1,1,1,1])] [(0, .string (sb s)), (4, b), (5, .int .i64 ((a : Nat) : Int)), (6, .int .i64 ((n : Nat) : Int)), (21, .bool false)] w (by kernel_rfl) .nil ?_
      refine GoS.run [0, 4, 5, 6, 50] [.n, .n, .n, .n, .n, .n, .n, .n, .n] _ [.inRegion (cops (csub (cd Try.f39) [1,1,1,0,0,0,1,0,1,1,0,0])) [3,4,5,6,7,8,9], .code (csub (cd Try.f39) [1,1,1,0,0,0,1,0,1,1,0,1]), .code (csub (cd Try.f39) [1,1,1,0,0,0,1,0,1,1,1]), .inBlock 1, .inLoop (csub (cd Try.f39) [1,1,1,0,0,0]), .inBlock 0, .code (csub (cd Try.f39) [1,1,1,1])] [(0, .string (sb s)), (4, b), (5, .int .i64 ((a : Nat) : Int)), (6, .int .i64 ((n : Nat) : Int)), (50, .bool (decide (((n : Nat) : Int) > 4)))] w (by kernel_rfl) .nil ?_
      refine GoS.fork 50 (decide (((n : Nat) : Int) > 4)) (by kernel_rfl) (fun h43 => ?_) (fun h43 => ?_)
      ·
        have h43p : ((n : Nat) : Int) > 4 := of_decide_eq_true h43
        refine GoS.run [0, 4, 5, 6, 57] [.n, .n, .n, .n, .n, .n, .n] _ [.inRegion (cops (csub (cd Try.f39) [1,1,1,0,0,0,1,0,1,1,0,0])) [], .code (csub (cd Try.f39) [1,1,1,0,0,0,1,0,1,1,0,1]), .code (csub (cd Try.f39) [1,1,1,0,0,0,1,0,1,1,1]), .inBlock 1, .inLoop (csub (cd Try.f39) [1,1,1,0,0,0]), .inBlock 0, .code (csub (cd Try.f39) [1,1,1,1])] [(0, .string (sb s)), (4, b), (5, .int .i64 ((a : Nat) : Int)), (6, .int .i64 ((n : Nat) : Int)), (57, .bool true)] w (by kernel_rfl) .nil ?_
        have hM44 : Mem [] w0 w [] := hM.sub (List.Sublist.cons _ (List.Sublist.refl _))
        refine GoS.run [2, 3] [.n, .n, .n, .n, .n, .n, .n] _ [.code (csub (cd Try.f39) [1,1,1,0,0,0,1,0,1,1,0,1,0,1]), .code (csub (cd Try.f39) [1,1,1,0,0,0,1,0,1,1,1]), .inBlock 1, .inLoop (csub (cd Try.f39) [1,1,1,0,0,0]), .inBlock 0, .code (csub (cd Try.f39) [1,1,1,1])] [(2, .slice none 0 0), (3, .int .i64 7)] w (by kernel_rfl) .nil ?_
        refine GoS.ret (fn := Try.f39) (v := (.tuple #[.slice none 0 0, .int .i64 7])) Try.func39 (by kernel_rfl) ?_
        rw [hR]
        have e := first_none ha (by omega) hno
        obtain ⟨e1, e2⟩ := dec_no hd (by intro e3; have := congrArg List.length e3; rw [List.length_drop] at this; simp at this; omega) e
        exact ⟨_, by rw [e2], by rw [e1]; exact hM44.nilrow 3 1⟩
      ·
        have hz : ¬ (((n : Nat) : Int) > 4) := of_decide_eq_false h43
        omega

set_option maxHeartbeats 400000 in
theorem rdecode_L (s : List UInt8) {w0 : World} (hs : s.length * 8 ≤ 140737488355328) (R : Ending → World → Prop) (hR : R = (fun e w' => ∃ v, e = .returned (.tuple #[v, .int .i64 (decE s)]) ∧ Mem [] w0 w' [⟨3, 1, v, (decL s).length, ivals .i64 (decL s)⟩])) : ∀ (N : Nat) (a : Nat) (l : List Int) (b : Value) (w : World) (ha : a ≤ s.length) (hl : l.length ≤ a) (hd : decF (s.drop a).length l (s.drop a) = dec s) (hM : Mem [] w0 w [⟨3, 1, b, (List.length l), (ivals .i64 l)⟩]) (hN : s.length - a < N), GoS Try.prog 39 R 62 [.code (csub (cd Try.f39) [1,1,1,0,0,0]), .inLoop (csub (cd Try.f39) [1,1,1,0,0,0]), .inBlock 0, .code (csub (cd Try.f39) [1,1,1,1])] [(0, .string (sb s)), (4, b), (5, .int .i64 ((a : Nat) : Int))] w := by
  intro N
  induction N with
  | zero => intro a l b w ha hl hd hM hN; exact absurd hN (Nat.not_lt_zero _)
  | succ N ih =>
    intro a l b w ha hl hd hM hN
    have o1 : (Builtin.len_ #[9] 3 #[.string (sb s)]).run Try.prog w = .ok (.int .i64 ((s.length : Nat) : Int)) w := f_len (by kernel_rfl)
    refine GoS.run [0, 4, 5, 11] [.n, .n, .n, .n, .n, .h (.int .i64 ((s.length : Nat) : Int)), .n, .n] _ [.code (csub (cd Try.f39) [1,1,1,0,0,0,0,1]), .code (csub (cd Try.f39) [1,1,1,0,0,0,1]), .inLoop (csub (cd Try.f39) [1,1,1,0,0,0]), .inBlock 0, .code (csub (cd Try.f39) [1,1,1,1])] [(0, .string (sb s)), (4, b), (5, .int .i64 ((a : Nat) : Int)), (11, .bool (decide (((a : Nat) : Int) < ((s.length : Nat) : Int))))] w (by kernel_rfl) (.cons o1 .nil) ?_
    refine GoS.cond (decide (((a : Nat) : Int) < ((s.length : Nat) : Int))) [.code (csub (cd Try.f39) [1,1,1,0,0,0,0,1,0]), .code (csub (cd Try.f39) [1,1,1,0,0,0,1]), .inLoop (csub (cd Try.f39) [1,1,1,0,0,0]), .inBlock 0, .code (csub (cd Try.f39) [1,1,1,1])] [.code (csub (cd Try.f39) [1,1,1,0,0,0,0,1,1]), .code (csub (cd Try.f39) [1,1,1,0,0,0,1]), .inLoop (csub (cd Try.f39) [1,1,1,0,0,0]), .inBlock 0, .code (csub (cd Try.f39) [1,1,1,1])] (by kernel_rfl) (fun h2 => ?_) (fun h2 => ?_)
    ·
      have h2p : ((a : Nat) : Int) < ((s.length : Nat) : Int) := of_decide_eq_true h2
      refine GoS.run [0, 4, 5] [.n] _ [.code (csub (cd Try.f39) [1,1,1,0,0,0,1]), .inLoop (csub (cd Try.f39) [1,1,1,0,0,0]), .inBlock 0, .code (csub (cd Try.f39) [1,1,1,1])] [(0, .string (sb s)), (4, b), (5, .int .i64 ((a : Nat) : Int))] w (by kernel_rfl) .nil ?_
      refine GoS.run [0, 4, 5, 6] [.n, .n, .n, .n, .n, .n, .n, .n] _ [.code (csub (cd Try.f39) [1,1,1,0,0,0,1,0,1,0,0,0]), .inLoop (csub (cd Try.f39) [1,1,1,0,0,0,1,0,1,0,0,0]), .inBlock 2, .code (csub (cd Try.f39) [1,1,1,0,0,0,1,0,1,1]), .inBlock 1, .inLoop (csub (cd Try.f39) [1,1,1,0,0,0]), .inBlock 0, .code (csub (cd Try.f39) [1,1,1,1])] [(0, .string (sb s)), (4, b), (5, .int .i64 ((a : Nat) : Int)), (6, .int .i64 1)] w (by kernel_rfl) .nil ?_
      exact rdecode_L2 s l hs hl hd R hR 6 _ 1 w (fun a' l b w q1 q2 q3 q4 q5 => ih a' l b w q2 q3 q4 q5 (by omega)) (by omega) (by omega) (by omega) (by intro m q1 q2; omega) hM (by omega)
    ·
      have h2p : ¬ (((a : Nat) : Int) < ((s.length : Nat) : Int)) := of_decide_eq_false h2
      refine GoS.run [2, 3] [.n, .n, .n, .n, .n, .n, .n] _ [.code (csub (cd Try.f39) [1,1,1,1,1])] [(2, b), (3, .int .i64 0)] w (by kernel_rfl) .nil ?_
      refine GoS.ret (fn := Try.f39) (v := (.tuple #[b, .int .i64 0])) Try.func39 (by kernel_rfl) ?_
      rw [hR]
      obtain ⟨e1, e2⟩ := dec_yes hd (List.drop_eq_nil_of_le (by omega))
      exact ⟨_, by rw [e2], by rw [e1]; exact hM⟩

set_option maxHeartbeats 400000 in
theorem rdecode_c (s : List UInt8) (hs : s.length * 8 ≤ 140737488355328) (w : World) :
    Calls Try.prog 39 #[.string (sb s)] w (fun e w' => ∃ v, e = .returned (.tuple #[v, .int .i64 (decE s)]) ∧ Mem [] w w' [⟨3, 1, v, (decL s).length, ivals .i64 (decL s)⟩]) := by
  obtain ⟨R, hR⟩ : ∃ R : Ending → World → Prop, R = (fun e w' => ∃ v, e = .returned (.tuple #[v, .int .i64 (decE s)]) ∧ Mem [] w w' [⟨3, 1, v, (decL s).length, ivals .i64 (decL s)⟩]) := ⟨_, rfl⟩
  rw [← hR]
  refine GoS.enter (n := 62) Try.func39 (by kernel_rfl) rfl [(0, .string (sb s))] (by kernel_rfl) (by kernel_rfl) ?_
  have hM0 := Mem.start w
  refine GoS.run [0, 4, 5] [.n, .n, .n, .n, .n, .n, .n, .n, .n, .n, .n, .n, .n, .n, .n, .n] _ [.code (csub (cd Try.f39) [1,1,1,0,0,0]), .inLoop (csub (cd Try.f39) [1,1,1,0,0,0]), .inBlock 0, .code (csub (cd Try.f39) [1,1,1,1])] [(0, .string (sb s)), (4, .slice none 0 0), (5, .int .i64 0)] w (by kernel_rfl) .nil ?_
  exact rdecode_L s hs R hR (s.length + 1) 0 [] _ w (by omega) (by simp) rfl (hM0.nilrow 3 1) (by omega)


end Go.Proofs.Ytnhplkkbpmijdaa
