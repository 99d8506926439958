/-
  The walk of BitpackSmall.
-/
import Derived.Test.YtehpfcpobemjfaaPackK
namespace Go.Proofs.Ytehpfcpobemjfaa
open Go Go.Gw Go.NumP Go.LiveP Go.PackP Go.RowKit
set_option linter.unusedVariables false
set_option linter.unusedSimpArgs false


set_option maxHeartbeats 1000000 in
theorem lsmall_L (v : Value) (l : List Int) {w0 : World} (hv : Rd w0 1 v l.length (ivals .i64 l)) (hw : ∀ n ∈ l, -9223372036854775808 ≤ n ∧ n ≤ 9223372036854775807) (hl : l.length * 8 ≤ 140737488351232) (W : Nat) (h1 : 1 ≤ W) (h2 : W ≤ 62) (R : Ending → World → Prop) (hR : R = (fun e w' => e = .returned (.bool true) ∧ Below w0.heap.size w0 w')) : ∀ (N : Nat) (q : List Int) (vq : Value) (k : Nat) (w : World) (hk : k ≤ l.length) (hk2 : k ≤ 128) (hq : q.length ≤ k) (hm : ∀ x ∈ q, 0 ≤ x ∧ x < ((2 ^ W : Nat) : Int)) (hM : Mem [] w0 w [⟨3, 1, vq, (List.length q), (ivals .i64 q)⟩]) (hN : l.length - k < N), GoS Try.prog 6 R 86 [.code (csub (cd Try.f6) [1,1,1,0,1,0,0]), .inLoop (csub (cd Try.f6) [1,1,1,0,1,0,0]), .inBlock 0, .code (csub (cd Try.f6) [1,1,1,1])] [(0, v), (1, .int .i64 ((W : Nat) : Int)), (5, vq), (6, .int .i64 ((k : Nat) : Int))] w := by
  intro N
  induction N with
  | zero => intro q vq k w hk hk2 hq hm hM hN; exact absurd hN (Nat.not_lt_zero _)
  | succ N ih =>
    intro q vq k w hk hk2 hq hm hM hN
    have hpw := Nat.two_pow_pos W
    have hpl : 2 ^ W ≤ 2 ^ 62 := Nat.pow_le_pow_right (by decide) h2
    have hat := list_at hw
    have hpk := packT_len (l := q) (fun n hn => by have := hm n hn; omega)
    have o1 : (Builtin.len_ #[22] 3 #[v]).run Try.prog w = .ok (.int .i64 (((List.length l) : Nat) : Int)) w := f_slen sT22 (hv.kept0 hM.kept) 3 _
    refine GoS.run [0, 1, 5, 6, 25] [.n, .n, .n, .n, .n, .h (.int .i64 (((List.length l) : Nat) : Int)), .n, .n] _ [.inRegion (cops (csub (cd Try.f6) [1,1,1,0,1,0,0,0,0])) [5,6,7], .code (csub (cd Try.f6) [1,1,1,0,1,0,0,0,1]), .code (csub (cd Try.f6) [1,1,1,0,1,0,0,1]), .inLoop (csub (cd Try.f6) [1,1,1,0,1,0,0]), .inBlock 0, .code (csub (cd Try.f6) [1,1,1,1])] [(0, v), (1, .int .i64 ((W : Nat) : Int)), (5, vq), (6, .int .i64 ((k : Nat) : Int)), (25, .bool (decide (((k : Nat) : Int) < (((List.length l) : Nat) : Int))))] w (by kernel_rfl) (.cons o1 .nil) ?_
    refine GoS.fork 25 (decide (((k : Nat) : Int) < (((List.length l) : Nat) : Int))) (by kernel_rfl) (fun h2 => ?_) (fun h2 => ?_)
    ·
      have h2p : ((k : Nat) : Int) < (((List.length l) : Nat) : Int) := of_decide_eq_true h2
      refine GoS.run [0, 1, 5, 6, 28] [.n, .n, .n] _ [.inRegion (cops (csub (cd Try.f6) [1,1,1,0,1,0,0,0,0])) [], .code (csub (cd Try.f6) [1,1,1,0,1,0,0,0,1]), .code (csub (cd Try.f6) [1,1,1,0,1,0,0,1]), .inLoop (csub (cd Try.f6) [1,1,1,0,1,0,0]), .inBlock 0, .code (csub (cd Try.f6) [1,1,1,1])] [(0, v), (1, .int .i64 ((W : Nat) : Int)), (5, vq), (6, .int .i64 ((k : Nat) : Int)), (28, .bool (decide (((k : Nat) : Int) < 128)))] w (by kernel_rfl) .nil ?_
      refine GoS.run [0, 1, 5, 6, 28] [.n] _ [.code (csub (cd Try.f6) [1,1,1,0,1,0,0,0,1]), .code (csub (cd Try.f6) [1,1,1,0,1,0,0,1]), .inLoop (csub (cd Try.f6) [1,1,1,0,1,0,0]), .inBlock 0, .code (csub (cd Try.f6) [1,1,1,1])] [(0, v), (1, .int .i64 ((W : Nat) : Int)), (5, vq), (6, .int .i64 ((k : Nat) : Int)), (28, .bool (decide (((k : Nat) : Int) < 128)))] w (by kernel_rfl) .nil ?_
      refine GoS.cond (decide (((k : Nat) : Int) < 128)) [.code (csub (cd Try.f6) [1,1,1,0,1,0,0,0,1,0]), .code (csub (cd Try.f6) [1,1,1,0,1,0,0,1]), .inLoop (csub (cd Try.f6) [1,1,1,0,1,0,0]), .inBlock 0, .code (csub (cd Try.f6) [1,1,1,1])] [.code (csub (cd Try.f6) [1,1,1,0,1,0,0,0,1,1]), .code (csub (cd Try.f6) [1,1,1,0,1,0,0,1]), .inLoop (csub (cd Try.f6) [1,1,1,0,1,0,0]), .inBlock 0, .code (csub (cd Try.f6) [1,1,1,1])] (by kernel_rfl) (fun h3 => ?_) (fun h3 => ?_)
      ·
        have h3p : ((k : Nat) : Int) < 128 := of_decide_eq_true h3
        refine GoS.run [0, 1, 5, 6] [.n] _ [.code (csub (cd Try.f6) [1,1,1,0,1,0,0,1]), .inLoop (csub (cd Try.f6) [1,1,1,0,1,0,0]), .inBlock 0, .code (csub (cd Try.f6) [1,1,1,1])] [(0, v), (1, .int .i64 ((W : Nat) : Int)), (5, vq), (6, .int .i64 ((k : Nat) : Int))] w (by kernel_rfl) .nil ?_
        obtain ⟨p39, hp40, hq41⟩ := rd_at (i := ((k : Nat) : Int)) sT22 (hv.kept0 hM.kept) k (by omega) (by first | omega | (dsimp only; omega))
        have o43 : (Instr.indexAt 22 (v) (.int .i64 ((k : Nat) : Int))).run Try.prog w = .ok (.pointer (some p39)) w := hq41 _ _
        have hb42 := hat k
        have o44 : (Instr.loadAt 3 (.pointer (some p39))).run Try.prog w = .ok (.int .i64 (List.getD l k 0)) w := at_load pE3 (hv.kept0 hM.kept) hp40 (ivals_at (by first | omega | (dsimp only; omega)))
        refine GoS.run [0, 1, 5, 6, 35] [.n, .n, .n, .n, .n, .n, .h (.pointer (some p39)), .h (.int .i64 (List.getD l k 0)), .n, .n] _ [.code (csub (cd Try.f6) [1,1,1,0,1,0,0,1,0,0,1]), .inBlock 1, .code (csub (cd Try.f6) [1,1,1,0,1,0,0,1,1]), .inLoop (csub (cd Try.f6) [1,1,1,0,1,0,0]), .inBlock 0, .code (csub (cd Try.f6) [1,1,1,1])] [(0, v), (1, .int .i64 ((W : Nat) : Int)), (5, vq), (6, .int .i64 ((k : Nat) : Int)), (35, .bool (decide ((List.getD l k 0) ≥ 0)))] w (by kernel_rfl) (.cons o43 (.cons o44 .nil)) ?_
        refine GoS.cond (decide ((List.getD l k 0) ≥ 0)) [.code (csub (cd Try.f6) [1,1,1,0,1,0,0,1,0,0,1,0]), .inBlock 1, .code (csub (cd Try.f6) [1,1,1,0,1,0,0,1,1]), .inLoop (csub (cd Try.f6) [1,1,1,0,1,0,0]), .inBlock 0, .code (csub (cd Try.f6) [1,1,1,1])] [.code (csub (cd Try.f6) [1,1,1,0,1,0,0,1,0,0,1,1]), .inBlock 1, .code (csub (cd Try.f6) [1,1,1,0,1,0,0,1,1]), .inLoop (csub (cd Try.f6) [1,1,1,0,1,0,0]), .inBlock 0, .code (csub (cd Try.f6) [1,1,1,1])] (by kernel_rfl) (fun h45 => ?_) (fun h45 => ?_)
        ·
          have h45p : (List.getD l k 0) ≥ 0 := of_decide_eq_true h45
          obtain ⟨p46, hp47, hq48⟩ := rd_at (i := ((k : Nat) : Int)) sT22 (hv.kept0 hM.kept) k (by omega) (by first | omega | (dsimp only; omega))
          have o59 : (Instr.indexAt 22 (v) (.int .i64 ((k : Nat) : Int))).run Try.prog w = .ok (.pointer (some p46)) w := hq48 _ _
          have hb49 := hat k
          have o60 : (Instr.loadAt 3 (.pointer (some p46))).run Try.prog w = .ok (.int .i64 (List.getD l k 0)) w := at_load pE3 (hv.kept0 hM.kept) hp47 (ivals_at (by first | omega | (dsimp only; omega)))
          have o61 : (convert 3 37 (.int .i64 ((W : Nat) : Int))).run Try.prog w = .ok (.int .u64 ((W : Nat) : Int)) w := f_conv (u := .int .i64) (by kernel_rfl) (by kernel_rfl) (IntWalk.u64_in _ (by omega))
          have o62 : (binOp .shl 3 (.int .i64 1) (.int .u64 ((W : Nat) : Int))).run Try.prog w = .ok (.int .i64 (((2 ^ W) : Nat) : Int)) w := f_shl (by omega) (shl_one (by omega))
          have o63 : (binOp .rem 3 (.int .i64 (List.getD l k 0)) (.int .i64 (((2 ^ W) : Nat) : Int))).run Try.prog w = .ok (.int .i64 ((List.getD l k 0) % (((2 ^ W) : Nat) : Int))) w := f_rem (by omega) (IntWalk.rem_in _ _ (by omega))
          obtain ⟨v50, w51, hr52, hM53⟩ := m_lit sT22 hM (n := 1) (parts := #[(0, .int .i64 ((List.getD l k 0) % (((2 ^ W) : Nat) : Int)))]) (cs := [.int .i64 ((List.getD l k 0) % (((2 ^ W) : Nat) : Int))]) (by decide) (by kernel_rfl) rfl
          have o64 : (Instr.buildSlice 22 1 #[(0, .int .i64 ((List.getD l k 0) % (((2 ^ W) : Nat) : Int)))]).run Try.prog w = .ok v50 w51 := hr52
          obtain ⟨v54, w55, hr56, hM57⟩ := m_append sT22 hM53 1 rfl (hM53.rd 0 rfl) (by intro u hu; simp at hu; rcases hu with rfl <;> rfl) (by (first | omega | (simp; done) | (simp; omega))) (by (first | omega | (simp; done) | (simp; omega))) 22
          have hM58 : Mem [] w0 w55 [⟨3, 1, v50, 1, [.int .i64 ((List.getD l k 0) % (((2 ^ W) : Nat) : Int))]⟩, ⟨3, 1, v54, (List.length (q ++ ([((List.getD l k 0) % (((2 ^ W) : Nat) : Int))] : List Int))), (ivals .i64 (q ++ ([((List.getD l k 0) % (((2 ^ W) : Nat) : Int))] : List Int)))⟩] := hM57.cast (by simp [ivals, svals, bvals, nvals, u8s, Nat.add_assoc])
          have o65 : (Builtin.append_ #[22, 22] 22 #[vq, v50]).run Try.prog w51 = .ok v54 w55 := hr56
          have hM66 : Mem [] w0 w55 [⟨3, 1, v54, (List.length (q ++ ([((List.getD l k 0) % (((2 ^ W) : Nat) : Int))] : List Int))), (ivals .i64 (q ++ ([((List.getD l k 0) % (((2 ^ W) : Nat) : Int))] : List Int)))⟩] := hM58.sub (List.Sublist.cons _ (List.Sublist.cons_cons _ (List.Sublist.refl _)))
          refine GoS.run [0, 1, 5, 6] [.n, .n, .n, .n, .h (.pointer (some p46)), .h (.int .i64 (List.getD l k 0)), .n, .h (.int .u64 ((W : Nat) : Int)), .h (.int .i64 (((2 ^ W) : Nat) : Int)), .h (.int .i64 ((List.getD l k 0) % (((2 ^ W) : Nat) : Int))), .u (v50) (w51), .u (v54) (w55), .n, .n] _ [.inBlock 1, .code (csub (cd Try.f6) [1,1,1,0,1,0,0,1,1]), .inLoop (csub (cd Try.f6) [1,1,1,0,1,0,0]), .inBlock 0, .code (csub (cd Try.f6) [1,1,1,1])] [(0, v), (1, .int .i64 ((W : Nat) : Int)), (5, v54), (6, .int .i64 ((k : Nat) : Int))] w55 (by kernel_rfl) (.cons o59 (.cons o60 (.cons o61 (.cons o62 (.cons o63 (.cons o64 (.cons o65 .nil))))))) ?_
          have o67 : (binOp .add 3 (.int .i64 ((k : Nat) : Int)) (.int .i64 1)).run Try.prog w55 = .ok (.int .i64 (((k + 1) : Nat) : Int)) w55 := f_add (by rw [show ((k : Nat) : Int) + 1 = (((k + 1) : Nat) : Int) by omega]; exact IntWalk.i64_in _ (by omega))
          refine GoS.run [0, 1, 5, 6] [.n, .n, .n, .h (.int .i64 (((k + 1) : Nat) : Int)), .n, .n, .n] _ [.code (csub (cd Try.f6) [1,1,1,0,1,0,0]), .inLoop (csub (cd Try.f6) [1,1,1,0,1,0,0]), .inBlock 0, .code (csub (cd Try.f6) [1,1,1,1])] [(0, v), (1, .int .i64 ((W : Nat) : Int)), (5, v54), (6, .int .i64 (((k + 1) : Nat) : Int))] w55 (by kernel_rfl) (.cons o67 .nil) ?_
          exact ih (q ++ ([((List.getD l k 0) % (((2 ^ W) : Nat) : Int))] : List Int)) _ (k + 1) _ (by omega) (by omega) (by simp; omega) (by intro x hx; rcases List.mem_append.1 hx with hx | hx; exact hm x hx; simp only [List.mem_singleton] at hx; subst hx; exact ⟨Int.emod_nonneg _ (by omega), Int.emod_lt_of_pos _ (by omega)⟩) (hM66.cast (by simp)) (by omega)
        ·
          have h45p : ¬ ((List.getD l k 0) ≥ 0) := of_decide_eq_false h45
          refine GoS.run [0, 1, 5, 6] [.n] _ [.inBlock 1, .code (csub (cd Try.f6) [1,1,1,0,1,0,0,1,1]), .inLoop (csub (cd Try.f6) [1,1,1,0,1,0,0]), .inBlock 0, .code (csub (cd Try.f6) [1,1,1,1])] [(0, v), (1, .int .i64 ((W : Nat) : Int)), (5, vq), (6, .int .i64 ((k : Nat) : Int))] w (by kernel_rfl) .nil ?_
          have o68 : (binOp .add 3 (.int .i64 ((k : Nat) : Int)) (.int .i64 1)).run Try.prog w = .ok (.int .i64 (((k + 1) : Nat) : Int)) w := f_add (by rw [show ((k : Nat) : Int) + 1 = (((k + 1) : Nat) : Int) by omega]; exact IntWalk.i64_in _ (by omega))
          refine GoS.run [0, 1, 5, 6] [.n, .n, .n, .h (.int .i64 (((k + 1) : Nat) : Int)), .n, .n, .n] _ [.code (csub (cd Try.f6) [1,1,1,0,1,0,0]), .inLoop (csub (cd Try.f6) [1,1,1,0,1,0,0]), .inBlock 0, .code (csub (cd Try.f6) [1,1,1,1])] [(0, v), (1, .int .i64 ((W : Nat) : Int)), (5, vq), (6, .int .i64 (((k + 1) : Nat) : Int))] w (by kernel_rfl) (.cons o68 .nil) ?_
          exact ih q vq (k + 1) _ (by omega) (by omega) (by omega) hm hM (by omega)
      ·
        have h3p : ¬ (((k : Nat) : Int) < 128) := of_decide_eq_false h3
        refine GoS.run [1, 5, 48] [.n, .n, .n, .n] _ [.inRegion (cops (csub (cd Try.f6) [1,1,1,1,0])) [1,2,3,4,5,6], .code (csub (cd Try.f6) [1,1,1,1,1])] [(1, .int .i64 ((W : Nat) : Int)), (5, vq), (48, vq)] w (by kernel_rfl) .nil ?_
        refine GoS.call [1, 5] 8 #[vq] (some 49) [.inRegion (cops (csub (cd Try.f6) [1,1,1,1,0])) [2,3,4,5,6], .code (csub (cd Try.f6) [1,1,1,1,1])] [(1, .int .i64 ((W : Nat) : Int)), (5, vq)] (by kernel_rfl) (pack_c vq q w (hM.rd 0 rfl) (by intro n hn; have := hm n hn; omega) (by omega)) ?_
        rintro _ w4 ⟨rfl, m5⟩
        refine ⟨_, rfl, ?_⟩
        have hM6 := Mem.join hM m5
        have o7 : (Builtin.len_ #[22] 3 #[vq]).run Try.prog w4 = .ok (.int .i64 (((List.length q) : Nat) : Int)) w4 := f_slen sT22 (hM6.rd 0 rfl) 3 _
        refine GoS.run [1, 5, 7, 8, 9, 54] [.n, .n, .n, .n, .n, .n, .n, .n, .n, .n, .n, .n, .n, .n, .h (.int .i64 (((List.length q) : Nat) : Int)), .n, .n] _ [.code (csub (cd Try.f6) [1,1,1,1,1,1,0,1]), .code (csub (cd Try.f6) [1,1,1,1,1,1,1])] [(1, .int .i64 ((W : Nat) : Int)), (5, vq), (7, .string (sb (packT q))), (8, .int .i64 (packE q)), (9, .int .i64 1), (54, .bool (decide ((((List.length q) : Nat) : Int) ≥ 112)))] w4 (by kernel_rfl) (.cons o7 .nil) ?_
        refine GoS.cond (decide ((((List.length q) : Nat) : Int) ≥ 112)) [.code (csub (cd Try.f6) [1,1,1,1,1,1,0,1,0]), .code (csub (cd Try.f6) [1,1,1,1,1,1,1])] [.code (csub (cd Try.f6) [1,1,1,1,1,1,0,1,1]), .code (csub (cd Try.f6) [1,1,1,1,1,1,1])] (by kernel_rfl) (fun h8 => ?_) (fun h8 => ?_)
        ·
          have h8p : (((List.length q) : Nat) : Int) ≥ 112 := of_decide_eq_true h8
          refine GoS.run [1, 5, 7, 8, 9] [.n, .n, .n] _ [.code (csub (cd Try.f6) [1,1,1,1,1,1,1])] [(1, .int .i64 ((W : Nat) : Int)), (5, vq), (7, .string (sb (packT q))), (8, .int .i64 (packE q)), (9, .int .i64 2)] w4 (by kernel_rfl) .nil ?_
          have o9 : (IntKind.i64 = IntKind.i64) ∧ w4 = w4 ∧ Value.bool true = .bool ((packE q) == 0) := ⟨rfl, rfl, congrArg Value.bool (Eq.symm (beq_iff_eq.2 (small_len (l := q) (w := W) (by omega) hm (by omega)).1))⟩
          have o10 : (Builtin.len_ #[22] 3 #[vq]).run Try.prog w4 = .ok (.int .i64 (((List.length q) : Nat) : Int)) w4 := f_slen sT22 (hM6.rd 0 rfl) 3 _
          refine GoS.run [1, 5, 7, 9, 57, 61] [.n, .n, .n, .h (.bool true), .n, .n, .h (.int .i64 (((List.length q) : Nat) : Int)), .n, .n] _ [.inRegion (cops (csub (cd Try.f6) [1,1,1,1,1,1,1,0])) [7,8,9,10,11,12,13,14,15,16,17,18,19,20,21,22,23,24,25,26,27,28,29,30,31], .code (csub (cd Try.f6) [1,1,1,1,1,1,1,1])] [(1, .int .i64 ((W : Nat) : Int)), (5, vq), (7, .string (sb (packT q))), (9, .int .i64 2), (57, .bool true), (61, .bool ((((List.length q) : Nat) : Int) == 0))] w4 (by kernel_rfl) (.cons o9 (.cons o10 .nil)) ?_
          refine GoS.fork 61 ((((List.length q) : Nat) : Int) == 0) (by kernel_rfl) (fun h11 => ?_) (fun h11 => ?_)
          ·
            have h11p : (((List.length q) : Nat) : Int) = 0 := eq_of_beq h11
            have o12 : (Builtin.len_ #[9] 3 #[.string (sb (packT q))]).run Try.prog w4 = .ok (.int .i64 (((packT q).length : Nat) : Int)) w4 := f_len (by kernel_rfl)
            have o13 : (IntKind.i64 = IntKind.i64) ∧ w4 = w4 ∧ Value.bool true = .bool ((((packT q).length : Nat) : Int) == 1) := ⟨rfl, rfl, congrArg Value.bool (Eq.symm (by rw [(small_len (l := q) (w := W) (by omega) hm (by omega)).2.1 (by have := eq_of_beq h11; omega)]; rfl))⟩
            have hM14 : Mem [] w0 w4 [] := hM6.sub (List.Sublist.cons _ (List.Sublist.refl _))
            refine GoS.run [4] [.n, .h (.int .i64 (((packT q).length : Nat) : Int)), .h (.bool true), .n, .n, .n, .n, .n, .n, .n, .n, .n, .n, .n, .n, .n, .n, .n, .n, .n, .n, .n, .n, .n, .n] _ [.inRegion (cops (csub (cd Try.f6) [1,1,1,1,1,1,1,0])) [], .code (csub (cd Try.f6) [1,1,1,1,1,1,1,1])] [(4, .bool true)] w4 (by kernel_rfl) (.cons o12 (.cons o13 .nil)) ?_
            refine GoS.run [4] [.n] _ [.code (csub (cd Try.f6) [1,1,1,1,1,1,1,1])] [(4, .bool true)] w4 (by kernel_rfl) .nil ?_
            refine GoS.ret (fn := Try.f6) (v := (.bool true)) Try.func6 (by kernel_rfl) ?_
            rw [hR]
            exact ⟨rfl, hM14.below⟩
          ·
            have h11p : ¬ ((((List.length q) : Nat) : Int) = 0) := p_ne h11
            have o15 : (Builtin.len_ #[22] 3 #[vq]).run Try.prog w4 = .ok (.int .i64 (((List.length q) : Nat) : Int)) w4 := f_slen sT22 (hM6.rd 0 rfl) 3 _
            refine GoS.run [1, 5, 7, 9, 57, 66, 70] [.n, .n, .n, .n, .n, .n, .h (.int .i64 (((List.length q) : Nat) : Int)), .n, .n] _ [.inRegion (cops (csub (cd Try.f6) [1,1,1,1,1,1,1,0])) [16,17,18,19,20,21,22,23,24,25,26,27,28,29,30,31], .code (csub (cd Try.f6) [1,1,1,1,1,1,1,1])] [(1, .int .i64 ((W : Nat) : Int)), (5, vq), (7, .string (sb (packT q))), (9, .int .i64 2), (57, .bool true), (66, .bool false), (70, .bool (decide ((((List.length q) : Nat) : Int) > 0)))] w4 (by kernel_rfl) (.cons o15 .nil) ?_
            refine GoS.fork 70 (decide ((((List.length q) : Nat) : Int) > 0)) (by kernel_rfl) (fun h16 => ?_) (fun h16 => ?_)
            ·
              have h16p : (((List.length q) : Nat) : Int) > 0 := of_decide_eq_true h16
              have o17 : (Builtin.len_ #[9] 3 #[.string (sb (packT q))]).run Try.prog w4 = .ok (.int .i64 (((packT q).length : Nat) : Int)) w4 := f_len (by kernel_rfl)
              have o18 : (Builtin.len_ #[22] 3 #[vq]).run Try.prog w4 = .ok (.int .i64 (((List.length q) : Nat) : Int)) w4 := f_slen sT22 (hM6.rd 0 rfl) 3 _
              have hwm := mul_le128 (W := W) (n := q.length) (by omega) (by omega)
              have o19 : (binOp .mul 3 (.int .i64 ((W : Nat) : Int)) (.int .i64 (((List.length q) : Nat) : Int))).run Try.prog w4 = .ok (.int .i64 (((W * (List.length q)) : Nat) : Int)) w4 := f_mul (by rw [show ((W : Nat) : Int) * (((List.length q) : Nat) : Int) = (((W * (List.length q)) : Nat) : Int) by omega]; exact IntWalk.i64_in _ (by omega))
              have o20 : (binOp .add 3 (.int .i64 (((W * (List.length q)) : Nat) : Int)) (.int .i64 7)).run Try.prog w4 = .ok (.int .i64 ((((W * (List.length q)) + 7) : Nat) : Int)) w4 := f_add (by rw [show (((W * (List.length q)) : Nat) : Int) + 7 = ((((W * (List.length q)) + 7) : Nat) : Int) by omega]; exact IntWalk.i64_in _ (by omega))
              have o21 : (binOp .quo 3 (.int .i64 ((((W * (List.length q)) + 7) : Nat) : Int)) (.int .i64 8)).run Try.prog w4 = .ok (.int .i64 (((((W * (List.length q)) + 7) / 8) : Nat) : Int)) w4 := f_quo (by decide) ((IntWalk.i64_quo _ _ (by omega)).trans (by omega))
              have o22 : (binOp .add 3 (.int .i64 3) (.int .i64 (((((W * (List.length q)) + 7) / 8) : Nat) : Int))).run Try.prog w4 = .ok (.int .i64 ((((((W * (List.length q)) + 7) / 8) + 3) : Nat) : Int)) w4 := f_add (by rw [show 3 + (((((W * (List.length q)) + 7) / 8) : Nat) : Int) = ((((((W * (List.length q)) + 7) / 8) + 3) : Nat) : Int) by omega]; exact IntWalk.i64_in _ (by omega))
              have hM23 : Mem [] w0 w4 [] := hM6.sub (List.Sublist.cons _ (List.Sublist.refl _))
              refine GoS.run [4] [.n, .h (.int .i64 (((packT q).length : Nat) : Int)), .n, .n, .n, .n, .h (.int .i64 (((List.length q) : Nat) : Int)), .h (.int .i64 (((W * (List.length q)) : Nat) : Int)), .h (.int .i64 ((((W * (List.length q)) + 7) : Nat) : Int)), .h (.int .i64 (((((W * (List.length q)) + 7) / 8) : Nat) : Int)), .h (.int .i64 ((((((W * (List.length q)) + 7) / 8) + 3) : Nat) : Int)), .n, .n, .n, .n, .n] _ [.inRegion (cops (csub (cd Try.f6) [1,1,1,1,1,1,1,0])) [], .code (csub (cd Try.f6) [1,1,1,1,1,1,1,1])] [(4, .bool (decide ((((packT q).length : Nat) : Int) ≤ ((((((W * (List.length q)) + 7) / 8) + 3) : Nat) : Int))))] w4 (by kernel_rfl) (.cons o17 (.cons o18 (.cons o19 (.cons o20 (.cons o21 (.cons o22 .nil)))))) ?_
              refine GoS.run [4] [.n] _ [.code (csub (cd Try.f6) [1,1,1,1,1,1,1,1])] [(4, .bool (decide ((((packT q).length : Nat) : Int) ≤ ((((((W * (List.length q)) + 7) / 8) + 3) : Nat) : Int))))] w4 (by kernel_rfl) .nil ?_
              refine GoS.ret (fn := Try.f6) (v := (.bool (decide ((((packT q).length : Nat) : Int) ≤ ((((((W * (List.length q)) + 7) / 8) + 3) : Nat) : Int))))) Try.func6 (by kernel_rfl) ?_
              rw [hR]
              exact ⟨ret_bool (decide_eq_true (by have q1 := (small_len (l := q) (w := W) (by omega) hm (by omega)).2.2 (by omega); split at q1 <;> omega)), hM23.below⟩
            ·
              have q1 := p_ne h11
              have q2 := of_decide_eq_false h16
              omega
        ·
          have h8p : ¬ ((((List.length q) : Nat) : Int) ≥ 112) := of_decide_eq_false h8
          refine GoS.run [1, 5, 7, 8, 9] [.n] _ [.code (csub (cd Try.f6) [1,1,1,1,1,1,1])] [(1, .int .i64 ((W : Nat) : Int)), (5, vq), (7, .string (sb (packT q))), (8, .int .i64 (packE q)), (9, .int .i64 1)] w4 (by kernel_rfl) .nil ?_
          have o24 : (IntKind.i64 = IntKind.i64) ∧ w4 = w4 ∧ Value.bool true = .bool ((packE q) == 0) := ⟨rfl, rfl, congrArg Value.bool (Eq.symm (beq_iff_eq.2 (small_len (l := q) (w := W) (by omega) hm (by omega)).1))⟩
          have o25 : (Builtin.len_ #[22] 3 #[vq]).run Try.prog w4 = .ok (.int .i64 (((List.length q) : Nat) : Int)) w4 := f_slen sT22 (hM6.rd 0 rfl) 3 _
          refine GoS.run [1, 5, 7, 9, 57, 61] [.n, .n, .n, .h (.bool true), .n, .n, .h (.int .i64 (((List.length q) : Nat) : Int)), .n, .n] _ [.inRegion (cops (csub (cd Try.f6) [1,1,1,1,1,1,1,0])) [7,8,9,10,11,12,13,14,15,16,17,18,19,20,21,22,23,24,25,26,27,28,29,30,31], .code (csub (cd Try.f6) [1,1,1,1,1,1,1,1])] [(1, .int .i64 ((W : Nat) : Int)), (5, vq), (7, .string (sb (packT q))), (9, .int .i64 1), (57, .bool true), (61, .bool ((((List.length q) : Nat) : Int) == 0))] w4 (by kernel_rfl) (.cons o24 (.cons o25 .nil)) ?_
          refine GoS.fork 61 ((((List.length q) : Nat) : Int) == 0) (by kernel_rfl) (fun h26 => ?_) (fun h26 => ?_)
          ·
            have h26p : (((List.length q) : Nat) : Int) = 0 := eq_of_beq h26
            have o27 : (Builtin.len_ #[9] 3 #[.string (sb (packT q))]).run Try.prog w4 = .ok (.int .i64 (((packT q).length : Nat) : Int)) w4 := f_len (by kernel_rfl)
            have o28 : (IntKind.i64 = IntKind.i64) ∧ w4 = w4 ∧ Value.bool true = .bool ((((packT q).length : Nat) : Int) == 1) := ⟨rfl, rfl, congrArg Value.bool (Eq.symm (by rw [(small_len (l := q) (w := W) (by omega) hm (by omega)).2.1 (by have := eq_of_beq h26; omega)]; rfl))⟩
            have hM29 : Mem [] w0 w4 [] := hM6.sub (List.Sublist.cons _ (List.Sublist.refl _))
            refine GoS.run [4] [.n, .h (.int .i64 (((packT q).length : Nat) : Int)), .h (.bool true), .n, .n, .n, .n, .n, .n, .n, .n, .n, .n, .n, .n, .n, .n, .n, .n, .n, .n, .n, .n, .n, .n] _ [.inRegion (cops (csub (cd Try.f6) [1,1,1,1,1,1,1,0])) [], .code (csub (cd Try.f6) [1,1,1,1,1,1,1,1])] [(4, .bool true)] w4 (by kernel_rfl) (.cons o27 (.cons o28 .nil)) ?_
            refine GoS.run [4] [.n] _ [.code (csub (cd Try.f6) [1,1,1,1,1,1,1,1])] [(4, .bool true)] w4 (by kernel_rfl) .nil ?_
            refine GoS.ret (fn := Try.f6) (v := (.bool true)) Try.func6 (by kernel_rfl) ?_
            rw [hR]
            exact ⟨rfl, hM29.below⟩
          ·
            have h26p : ¬ ((((List.length q) : Nat) : Int) = 0) := p_ne h26
            have o30 : (Builtin.len_ #[22] 3 #[vq]).run Try.prog w4 = .ok (.int .i64 (((List.length q) : Nat) : Int)) w4 := f_slen sT22 (hM6.rd 0 rfl) 3 _
            refine GoS.run [1, 5, 7, 9, 57, 66, 70] [.n, .n, .n, .n, .n, .n, .h (.int .i64 (((List.length q) : Nat) : Int)), .n, .n] _ [.inRegion (cops (csub (cd Try.f6) [1,1,1,1,1,1,1,0])) [16,17,18,19,20,21,22,23,24,25,26,27,28,29,30,31], .code (csub (cd Try.f6) [1,1,1,1,1,1,1,1])] [(1, .int .i64 ((W : Nat) : Int)), (5, vq), (7, .string (sb (packT q))), (9, .int .i64 1), (57, .bool true), (66, .bool false), (70, .bool (decide ((((List.length q) : Nat) : Int) > 0)))] w4 (by kernel_rfl) (.cons o30 .nil) ?_
            refine GoS.fork 70 (decide ((((List.length q) : Nat) : Int) > 0)) (by kernel_rfl) (fun h31 => ?_) (fun h31 => ?_)
            ·
              have h31p : (((List.length q) : Nat) : Int) > 0 := of_decide_eq_true h31
              have o32 : (Builtin.len_ #[9] 3 #[.string (sb (packT q))]).run Try.prog w4 = .ok (.int .i64 (((packT q).length : Nat) : Int)) w4 := f_len (by kernel_rfl)
              have o33 : (Builtin.len_ #[22] 3 #[vq]).run Try.prog w4 = .ok (.int .i64 (((List.length q) : Nat) : Int)) w4 := f_slen sT22 (hM6.rd 0 rfl) 3 _
              have hwm := mul_le128 (W := W) (n := q.length) (by omega) (by omega)
              have o34 : (binOp .mul 3 (.int .i64 ((W : Nat) : Int)) (.int .i64 (((List.length q) : Nat) : Int))).run Try.prog w4 = .ok (.int .i64 (((W * (List.length q)) : Nat) : Int)) w4 := f_mul (by rw [show ((W : Nat) : Int) * (((List.length q) : Nat) : Int) = (((W * (List.length q)) : Nat) : Int) by omega]; exact IntWalk.i64_in _ (by omega))
              have o35 : (binOp .add 3 (.int .i64 (((W * (List.length q)) : Nat) : Int)) (.int .i64 7)).run Try.prog w4 = .ok (.int .i64 ((((W * (List.length q)) + 7) : Nat) : Int)) w4 := f_add (by rw [show (((W * (List.length q)) : Nat) : Int) + 7 = ((((W * (List.length q)) + 7) : Nat) : Int) by omega]; exact IntWalk.i64_in _ (by omega))
              have o36 : (binOp .quo 3 (.int .i64 ((((W * (List.length q)) + 7) : Nat) : Int)) (.int .i64 8)).run Try.prog w4 = .ok (.int .i64 (((((W * (List.length q)) + 7) / 8) : Nat) : Int)) w4 := f_quo (by decide) ((IntWalk.i64_quo _ _ (by omega)).trans (by omega))
              have o37 : (binOp .add 3 (.int .i64 2) (.int .i64 (((((W * (List.length q)) + 7) / 8) : Nat) : Int))).run Try.prog w4 = .ok (.int .i64 ((((((W * (List.length q)) + 7) / 8) + 2) : Nat) : Int)) w4 := f_add (by rw [show 2 + (((((W * (List.length q)) + 7) / 8) : Nat) : Int) = ((((((W * (List.length q)) + 7) / 8) + 2) : Nat) : Int) by omega]; exact IntWalk.i64_in _ (by omega))
              have hM38 : Mem [] w0 w4 [] := hM6.sub (List.Sublist.cons _ (List.Sublist.refl _))
              refine GoS.run [4] [.n, .h (.int .i64 (((packT q).length : Nat) : Int)), .n, .n, .n, .n, .h (.int .i64 (((List.length q) : Nat) : Int)), .h (.int .i64 (((W * (List.length q)) : Nat) : Int)), .h (.int .i64 ((((W * (List.length q)) + 7) : Nat) : Int)), .h (.int .i64 (((((W * (List.length q)) + 7) / 8) : Nat) : Int)), .h (.int .i64 ((((((W * (List.length q)) + 7) / 8) + 2) : Nat) : Int)), .n, .n, .n, .n, .n] _ [.inRegion (cops (csub (cd Try.f6) [1,1,1,1,1,1,1,0])) [], .code (csub (cd Try.f6) [1,1,1,1,1,1,1,1])] [(4, .bool (decide ((((packT q).length : Nat) : Int) ≤ ((((((W * (List.length q)) + 7) / 8) + 2) : Nat) : Int))))] w4 (by kernel_rfl) (.cons o32 (.cons o33 (.cons o34 (.cons o35 (.cons o36 (.cons o37 .nil)))))) ?_
              refine GoS.run [4] [.n] _ [.code (csub (cd Try.f6) [1,1,1,1,1,1,1,1])] [(4, .bool (decide ((((packT q).length : Nat) : Int) ≤ ((((((W * (List.length q)) + 7) / 8) + 2) : Nat) : Int))))] w4 (by kernel_rfl) .nil ?_
              refine GoS.ret (fn := Try.f6) (v := (.bool (decide ((((packT q).length : Nat) : Int) ≤ ((((((W * (List.length q)) + 7) / 8) + 2) : Nat) : Int))))) Try.func6 (by kernel_rfl) ?_
              rw [hR]
              exact ⟨ret_bool (decide_eq_true (by have q1 := (small_len (l := q) (w := W) (by omega) hm (by omega)).2.2 (by omega); split at q1 <;> omega)), hM38.below⟩
            ·
              have q1 := p_ne h26
              have q2 := of_decide_eq_false h31
              omega
    ·
      have h2p : ¬ (((k : Nat) : Int) < (((List.length l) : Nat) : Int)) := of_decide_eq_false h2
      refine GoS.run [0, 1, 5, 6, 28] [.n, .n, .n] _ [.inRegion (cops (csub (cd Try.f6) [1,1,1,0,1,0,0,0,0])) [], .code (csub (cd Try.f6) [1,1,1,0,1,0,0,0,1]), .code (csub (cd Try.f6) [1,1,1,0,1,0,0,1]), .inLoop (csub (cd Try.f6) [1,1,1,0,1,0,0]), .inBlock 0, .code (csub (cd Try.f6) [1,1,1,1])] [(0, v), (1, .int .i64 ((W : Nat) : Int)), (5, vq), (6, .int .i64 ((k : Nat) : Int)), (28, .bool false)] w (by kernel_rfl) .nil ?_
      refine GoS.run [1, 5, 48] [.n, .n, .n, .n, .n, .n] _ [.inRegion (cops (csub (cd Try.f6) [1,1,1,1,0])) [1,2,3,4,5,6], .code (csub (cd Try.f6) [1,1,1,1,1])] [(1, .int .i64 ((W : Nat) : Int)), (5, vq), (48, vq)] w (by kernel_rfl) .nil ?_
      refine GoS.call [1, 5] 8 #[vq] (some 49) [.inRegion (cops (csub (cd Try.f6) [1,1,1,1,0])) [2,3,4,5,6], .code (csub (cd Try.f6) [1,1,1,1,1])] [(1, .int .i64 ((W : Nat) : Int)), (5, vq)] (by kernel_rfl) (pack_c vq q w (hM.rd 0 rfl) (by intro n hn; have := hm n hn; omega) (by omega)) ?_
      rintro _ w69 ⟨rfl, m70⟩
      refine ⟨_, rfl, ?_⟩
      have hM71 := Mem.join hM m70
      have o72 : (Builtin.len_ #[22] 3 #[vq]).run Try.prog w69 = .ok (.int .i64 (((List.length q) : Nat) : Int)) w69 := f_slen sT22 (hM71.rd 0 rfl) 3 _
      refine GoS.run [1, 5, 7, 8, 9, 54] [.n, .n, .n, .n, .n, .n, .n, .n, .n, .n, .n, .n, .n, .n, .h (.int .i64 (((List.length q) : Nat) : Int)), .n, .n] _ [.code (csub (cd Try.f6) [1,1,1,1,1,1,0,1]), .code (csub (cd Try.f6) [1,1,1,1,1,1,1])] [(1, .int .i64 ((W : Nat) : Int)), (5, vq), (7, .string (sb (packT q))), (8, .int .i64 (packE q)), (9, .int .i64 1), (54, .bool (decide ((((List.length q) : Nat) : Int) ≥ 112)))] w69 (by kernel_rfl) (.cons o72 .nil) ?_
      refine GoS.cond (decide ((((List.length q) : Nat) : Int) ≥ 112)) [.code (csub (cd Try.f6) [1,1,1,1,1,1,0,1,0]), .code (csub (cd Try.f6) [1,1,1,1,1,1,1])] [.code (csub (cd Try.f6) [1,1,1,1,1,1,0,1,1]), .code (csub (cd Try.f6) [1,1,1,1,1,1,1])] (by kernel_rfl) (fun h73 => ?_) (fun h73 => ?_)
      ·
        have h73p : (((List.length q) : Nat) : Int) ≥ 112 := of_decide_eq_true h73
        refine GoS.run [1, 5, 7, 8, 9] [.n, .n, .n] _ [.code (csub (cd Try.f6) [1,1,1,1,1,1,1])] [(1, .int .i64 ((W : Nat) : Int)), (5, vq), (7, .string (sb (packT q))), (8, .int .i64 (packE q)), (9, .int .i64 2)] w69 (by kernel_rfl) .nil ?_
        have o74 : (IntKind.i64 = IntKind.i64) ∧ w69 = w69 ∧ Value.bool true = .bool ((packE q) == 0) := ⟨rfl, rfl, congrArg Value.bool (Eq.symm (beq_iff_eq.2 (small_len (l := q) (w := W) (by omega) hm (by omega)).1))⟩
        have o75 : (Builtin.len_ #[22] 3 #[vq]).run Try.prog w69 = .ok (.int .i64 (((List.length q) : Nat) : Int)) w69 := f_slen sT22 (hM71.rd 0 rfl) 3 _
        refine GoS.run [1, 5, 7, 9, 57, 61] [.n, .n, .n, .h (.bool true), .n, .n, .h (.int .i64 (((List.length q) : Nat) : Int)), .n, .n] _ [.inRegion (cops (csub (cd Try.f6) [1,1,1,1,1,1,1,0])) [7,8,9,10,11,12,13,14,15,16,17,18,19,20,21,22,23,24,25,26,27,28,29,30,31], .code (csub (cd Try.f6) [1,1,1,1,1,1,1,1])] [(1, .int .i64 ((W : Nat) : Int)), (5, vq), (7, .string (sb (packT q))), (9, .int .i64 2), (57, .bool true), (61, .bool ((((List.length q) : Nat) : Int) == 0))] w69 (by kernel_rfl) (.cons o74 (.cons o75 .nil)) ?_
        refine GoS.fork 61 ((((List.length q) : Nat) : Int) == 0) (by kernel_rfl) (fun h76 => ?_) (fun h76 => ?_)
        ·
          have h76p : (((List.length q) : Nat) : Int) = 0 := eq_of_beq h76
          have o77 : (Builtin.len_ #[9] 3 #[.string (sb (packT q))]).run Try.prog w69 = .ok (.int .i64 (((packT q).length : Nat) : Int)) w69 := f_len (by kernel_rfl)
          have o78 : (IntKind.i64 = IntKind.i64) ∧ w69 = w69 ∧ Value.bool true = .bool ((((packT q).length : Nat) : Int) == 1) := ⟨rfl, rfl, congrArg Value.bool (Eq.symm (by rw [(small_len (l := q) (w := W) (by omega) hm (by omega)).2.1 (by have := eq_of_beq h76; omega)]; rfl))⟩
          have hM79 : Mem [] w0 w69 [] := hM71.sub (List.Sublist.cons _ (List.Sublist.refl _))
          refine GoS.run [4] [.n, .h (.int .i64 (((packT q).length : Nat) : Int)), .h (.bool true), .n, .n, .n, .n, .n, .n, .n, .n, .n, .n, .n, .n, .n, .n, .n, .n, .n, .n, .n, .n, .n, .n] _ [.inRegion (cops (csub (cd Try.f6) [1,1,1,1,1,1,1,0])) [], .code (csub (cd Try.f6) [1,1,1,1,1,1,1,1])] [(4, .bool true)] w69 (by kernel_rfl) (.cons o77 (.cons o78 .nil)) ?_
          refine GoS.run [4] [.n] _ [.code (csub (cd Try.f6) [1,1,1,1,1,1,1,1])] [(4, .bool true)] w69 (by kernel_rfl) .nil ?_
          refine GoS.ret (fn := Try.f6) (v := (.bool true)) Try.func6 (by kernel_rfl) ?_
          rw [hR]
          exact ⟨rfl, hM79.below⟩
        ·
          have h76p : ¬ ((((List.length q) : Nat) : Int) = 0) := p_ne h76
          have o80 : (Builtin.len_ #[22] 3 #[vq]).run Try.prog w69 = .ok (.int .i64 (((List.length q) : Nat) : Int)) w69 := f_slen sT22 (hM71.rd 0 rfl) 3 _
          refine GoS.run [1, 5, 7, 9, 57, 66, 70] [.n, .n, .n, .n, .n, .n, .h (.int .i64 (((List.length q) : Nat) : Int)), .n, .n] _ [.inRegion (cops (csub (cd Try.f6) [1,1,1,1,1,1,1,0])) [16,17,18,19,20,21,22,23,24,25,26,27,28,29,30,31], .code (csub (cd Try.f6) [1,1,1,1,1,1,1,1])] [(1, .int .i64 ((W : Nat) : Int)), (5, vq), (7, .string (sb (packT q))), (9, .int .i64 2), (57, .bool true), (66, .bool false), (70, .bool (decide ((((List.length q) : Nat) : Int) > 0)))] w69 (by kernel_rfl) (.cons o80 .nil) ?_
          refine GoS.fork 70 (decide ((((List.length q) : Nat) : Int) > 0)) (by kernel_rfl) (fun h81 => ?_) (fun h81 => ?_)
          ·
            have h81p : (((List.length q) : Nat) : Int) > 0 := of_decide_eq_true h81
            have o82 : (Builtin.len_ #[9] 3 #[.string (sb (packT q))]).run Try.prog w69 = .ok (.int .i64 (((packT q).length : Nat) : Int)) w69 := f_len (by kernel_rfl)
            have o83 : (Builtin.len_ #[22] 3 #[vq]).run Try.prog w69 = .ok (.int .i64 (((List.length q) : Nat) : Int)) w69 := f_slen sT22 (hM71.rd 0 rfl) 3 _
            have hwm := mul_le128 (W := W) (n := q.length) (by omega) (by omega)
            have o84 : (binOp .mul 3 (.int .i64 ((W : Nat) : Int)) (.int .i64 (((List.length q) : Nat) : Int))).run Try.prog w69 = .ok (.int .i64 (((W * (List.length q)) : Nat) : Int)) w69 := f_mul (by rw [show ((W : Nat) : Int) * (((List.length q) : Nat) : Int) = (((W * (List.length q)) : Nat) : Int) by omega]; exact IntWalk.i64_in _ (by omega))
            have o85 : (binOp .add 3 (.int .i64 (((W * (List.length q)) : Nat) : Int)) (.int .i64 7)).run Try.prog w69 = .ok (.int .i64 ((((W * (List.length q)) + 7) : Nat) : Int)) w69 := f_add (by rw [show (((W * (List.length q)) : Nat) : Int) + 7 = ((((W * (List.length q)) + 7) : Nat) : Int) by omega]; exact IntWalk.i64_in _ (by omega))
            have o86 : (binOp .quo 3 (.int .i64 ((((W * (List.length q)) + 7) : Nat) : Int)) (.int .i64 8)).run Try.prog w69 = .ok (.int .i64 (((((W * (List.length q)) + 7) / 8) : Nat) : Int)) w69 := f_quo (by decide) ((IntWalk.i64_quo _ _ (by omega)).trans (by omega))
            have o87 : (binOp .add 3 (.int .i64 3) (.int .i64 (((((W * (List.length q)) + 7) / 8) : Nat) : Int))).run Try.prog w69 = .ok (.int .i64 ((((((W * (List.length q)) + 7) / 8) + 3) : Nat) : Int)) w69 := f_add (by rw [show 3 + (((((W * (List.length q)) + 7) / 8) : Nat) : Int) = ((((((W * (List.length q)) + 7) / 8) + 3) : Nat) : Int) by omega]; exact IntWalk.i64_in _ (by omega))
            have hM88 : Mem [] w0 w69 [] := hM71.sub (List.Sublist.cons _ (List.Sublist.refl _))
            refine GoS.run [4] [.n, .h (.int .i64 (((packT q).length : Nat) : Int)), .n, .n, .n, .n, .h (.int .i64 (((List.length q) : Nat) : Int)), .h (.int .i64 (((W * (List.length q)) : Nat) : Int)), .h (.int .i64 ((((W * (List.length q)) + 7) : Nat) : Int)), .h (.int .i64 (((((W * (List.length q)) + 7) / 8) : Nat) : Int)), .h (.int .i64 ((((((W * (List.length q)) + 7) / 8) + 3) : Nat) : Int)), .n, .n, .n, .n, .n] _ [.inRegion (cops (csub (cd Try.f6) [1,1,1,1,1,1,1,0])) [], .code (csub (cd Try.f6) [1,1,1,1,1,1,1,1])] [(4, .bool (decide ((((packT q).length : Nat) : Int) ≤ ((((((W * (List.length q)) + 7) / 8) + 3) : Nat) : Int))))] w69 (by kernel_rfl) (.cons o82 (.cons o83 (.cons o84 (.cons o85 (.cons o86 (.cons o87 .nil)))))) ?_
            refine GoS.run [4] [.n] _ [.code (csub (cd Try.f6) [1,1,1,1,1,1,1,1])] [(4, .bool (decide ((((packT q).length : Nat) : Int) ≤ ((((((W * (List.length q)) + 7) / 8) + 3) : Nat) : Int))))] w69 (by kernel_rfl) .nil ?_
            refine GoS.ret (fn := Try.f6) (v := (.bool (decide ((((packT q).length : Nat) : Int) ≤ ((((((W * (List.length q)) + 7) / 8) + 3) : Nat) : Int))))) Try.func6 (by kernel_rfl) ?_
            rw [hR]
            exact ⟨ret_bool (decide_eq_true (by have q1 := (small_len (l := q) (w := W) (by omega) hm (by omega)).2.2 (by omega); split at q1 <;> omega)), hM88.below⟩
          ·
            have q1 := p_ne h76
            have q2 := of_decide_eq_false h81
            omega
      ·
        have h73p : ¬ ((((List.length q) : Nat) : Int) ≥ 112) := of_decide_eq_false h73
        refine GoS.run [1, 5, 7, 8, 9] [.n] _ [.code (csub (cd Try.f6) [1,1,1,1,1,1,1])] [(1, .int .i64 ((W : Nat) : Int)), (5, vq), (7, .string (sb (packT q))), (8, .int .i64 (packE q)), (9, .int .i64 1)] w69 (by kernel_rfl) .nil ?_
        have o89 : (IntKind.i64 = IntKind.i64) ∧ w69 = w69 ∧ Value.bool true = .bool ((packE q) == 0) := ⟨rfl, rfl, congrArg Value.bool (Eq.symm (beq_iff_eq.2 (small_len (l := q) (w := W) (by omega) hm (by omega)).1))⟩
        have o90 : (Builtin.len_ #[22] 3 #[vq]).run Try.prog w69 = .ok (.int .i64 (((List.length q) : Nat) : Int)) w69 := f_slen sT22 (hM71.rd 0 rfl) 3 _
        refine GoS.run [1, 5, 7, 9, 57, 61] [.n, .n, .n, .h (.bool true), .n, .n, .h (.int .i64 (((List.length q) : Nat) : Int)), .n, .n] _ [.inRegion (cops (csub (cd Try.f6) [1,1,1,1,1,1,1,0])) [7,8,9,10,11,12,13,14,15,16,17,18,19,20,21,22,23,24,25,26,27,28,29,30,31], .code (csub (cd Try.f6) [1,1,1,1,1,1,1,1])] [(1, .int .i64 ((W : Nat) : Int)), (5, vq), (7, .string (sb (packT q))), (9, .int .i64 1), (57, .bool true), (61, .bool ((((List.length q) : Nat) : Int) == 0))] w69 (by kernel_rfl) (.cons o89 (.cons o90 .nil)) ?_
        refine GoS.fork 61 ((((List.length q) : Nat) : Int) == 0) (by kernel_rfl) (fun h91 => ?_) (fun h91 => ?_)
        ·
          have h91p : (((List.length q) : Nat) : Int) = 0 := eq_of_beq h91
          have o92 : (Builtin.len_ #[9] 3 #[.string (sb (packT q))]).run Try.prog w69 = .ok (.int .i64 (((packT q).length : Nat) : Int)) w69 := f_len (by kernel_rfl)
          have o93 : (IntKind.i64 = IntKind.i64) ∧ w69 = w69 ∧ Value.bool true = .bool ((((packT q).length : Nat) : Int) == 1) := ⟨rfl, rfl, congrArg Value.bool (Eq.symm (by rw [(small_len (l := q) (w := W) (by omega) hm (by omega)).2.1 (by have := eq_of_beq h91; omega)]; rfl))⟩
          have hM94 : Mem [] w0 w69 [] := hM71.sub (List.Sublist.cons _ (List.Sublist.refl _))
          refine GoS.run [4] [.n, .h (.int .i64 (((packT q).length : Nat) : Int)), .h (.bool true), .n, .n, .n, .n, .n, .n, .n, .n, .n, .n, .n, .n, .n, .n, .n, .n, .n, .n, .n, .n, .n, .n] _ [.inRegion (cops (csub (cd Try.f6) [1,1,1,1,1,1,1,0])) [], .code (csub (cd Try.f6) [1,1,1,1,1,1,1,1])] [(4, .bool true)] w69 (by kernel_rfl) (.cons o92 (.cons o93 .nil)) ?_
          refine GoS.run [4] [.n] _ [.code (csub (cd Try.f6) [1,1,1,1,1,1,1,1])] [(4, .bool true)] w69 (by kernel_rfl) .nil ?_
          refine GoS.ret (fn := Try.f6) (v := (.bool true)) Try.func6 (by kernel_rfl) ?_
          rw [hR]
          exact ⟨rfl, hM94.below⟩
        ·
          have h91p : ¬ ((((List.length q) : Nat) : Int) = 0) := p_ne h91
          have o95 : (Builtin.len_ #[22] 3 #[vq]).run Try.prog w69 = .ok (.int .i64 (((List.length q) : Nat) : Int)) w69 := f_slen sT22 (hM71.rd 0 rfl) 3 _
          refine GoS.run [1, 5, 7, 9, 57, 66, 70] [.n, .n, .n, .n, .n, .n, .h (.int .i64 (((List.length q) : Nat) : Int)), .n, .n] _ [.inRegion (cops (csub (cd Try.f6) [1,1,1,1,1,1,1,0])) [16,17,18,19,20,21,22,23,24,25,26,27,28,29,30,31], .code (csub (cd Try.f6) [1,1,1,1,1,1,1,1])] [(1, .int .i64 ((W : Nat) : Int)), (5, vq), (7, .string (sb (packT q))), (9, .int .i64 1), (57, .bool true), (66, .bool false), (70, .bool (decide ((((List.length q) : Nat) : Int) > 0)))] w69 (by kernel_rfl) (.cons o95 .nil) ?_
          refine GoS.fork 70 (decide ((((List.length q) : Nat) : Int) > 0)) (by kernel_rfl) (fun h96 => ?_) (fun h96 => ?_)
          ·
            have h96p : (((List.length q) : Nat) : Int) > 0 := of_decide_eq_true h96
            have o97 : (Builtin.len_ #[9] 3 #[.string (sb (packT q))]).run Try.prog w69 = .ok (.int .i64 (((packT q).length : Nat) : Int)) w69 := f_len (by kernel_rfl)
            have o98 : (Builtin.len_ #[22] 3 #[vq]).run Try.prog w69 = .ok (.int .i64 (((List.length q) : Nat) : Int)) w69 := f_slen sT22 (hM71.rd 0 rfl) 3 _
            have hwm := mul_le128 (W := W) (n := q.length) (by omega) (by omega)
            have o99 : (binOp .mul 3 (.int .i64 ((W : Nat) : Int)) (.int .i64 (((List.length q) : Nat) : Int))).run Try.prog w69 = .ok (.int .i64 (((W * (List.length q)) : Nat) : Int)) w69 := f_mul (by rw [show ((W : Nat) : Int) * (((List.length q) : Nat) : Int) = (((W * (List.length q)) : Nat) : Int) by omega]; exact IntWalk.i64_in _ (by omega))
            have o100 : (binOp .add 3 (.int .i64 (((W * (List.length q)) : Nat) : Int)) (.int .i64 7)).run Try.prog w69 = .ok (.int .i64 ((((W * (List.length q)) + 7) : Nat) : Int)) w69 := f_add (by rw [show (((W * (List.length q)) : Nat) : Int) + 7 = ((((W * (List.length q)) + 7) : Nat) : Int) by omega]; exact IntWalk.i64_in _ (by omega))
            have o101 : (binOp .quo 3 (.int .i64 ((((W * (List.length q)) + 7) : Nat) : Int)) (.int .i64 8)).run Try.prog w69 = .ok (.int .i64 (((((W * (List.length q)) + 7) / 8) : Nat) : Int)) w69 := f_quo (by decide) ((IntWalk.i64_quo _ _ (by omega)).trans (by omega))
            have o102 : (binOp .add 3 (.int .i64 2) (.int .i64 (((((W * (List.length q)) + 7) / 8) : Nat) : Int))).run Try.prog w69 = .ok (.int .i64 ((((((W * (List.length q)) + 7) / 8) + 2) : Nat) : Int)) w69 := f_add (by rw [show 2 + (((((W * (List.length q)) + 7) / 8) : Nat) : Int) = ((((((W * (List.length q)) + 7) / 8) + 2) : Nat) : Int) by omega]; exact IntWalk.i64_in _ (by omega))
            have hM103 : Mem [] w0 w69 [] := hM71.sub (List.Sublist.cons _ (List.Sublist.refl _))
            refine GoS.run [4] [.n, .h (.int .i64 (((packT q).length : Nat) : Int)), .n, .n, .n, .n, .h (.int .i64 (((List.length q) : Nat) : Int)), .h (.int .i64 (((W * (List.length q)) : Nat) : Int)), .h (.int .i64 ((((W * (List.length q)) + 7) : Nat) : Int)), .h (.int .i64 (((((W * (List.length q)) + 7) / 8) : Nat) : Int)), .h (.int .i64 ((((((W * (List.length q)) + 7) / 8) + 2) : Nat) : Int)), .n, .n, .n, .n, .n] _ [.inRegion (cops (csub (cd Try.f6) [1,1,1,1,1,1,1,0])) [], .code (csub (cd Try.f6) [1,1,1,1,1,1,1,1])] [(4, .bool (decide ((((packT q).length : Nat) : Int) ≤ ((((((W * (List.length q)) + 7) / 8) + 2) : Nat) : Int))))] w69 (by kernel_rfl) (.cons o97 (.cons o98 (.cons o99 (.cons o100 (.cons o101 (.cons o102 .nil)))))) ?_
            refine GoS.run [4] [.n] _ [.code (csub (cd Try.f6) [1,1,1,1,1,1,1,1])] [(4, .bool (decide ((((packT q).length : Nat) : Int) ≤ ((((((W * (List.length q)) + 7) / 8) + 2) : Nat) : Int))))] w69 (by kernel_rfl) .nil ?_
            refine GoS.ret (fn := Try.f6) (v := (.bool (decide ((((packT q).length : Nat) : Int) ≤ ((((((W * (List.length q)) + 7) / 8) + 2) : Nat) : Int))))) Try.func6 (by kernel_rfl) ?_
            rw [hR]
            exact ⟨ret_bool (decide_eq_true (by have q1 := (small_len (l := q) (w := W) (by omega) hm (by omega)).2.2 (by omega); split at q1 <;> omega)), hM103.below⟩
          ·
            have q1 := p_ne h91
            have q2 := of_decide_eq_false h96
            omega

set_option maxHeartbeats 400000 in
theorem lsmall_c (v : Value) (l : List Int) (width : Int) (w : World) (hv : Rd w 1 v l.length (ivals .i64 l)) (hw : ∀ n ∈ l, -9223372036854775808 ≤ n ∧ n ≤ 9223372036854775807) (hl : l.length * 8 ≤ 140737488351232) :
    Calls Try.prog 6 #[v, .int .i64 width] w (fun e w' => e = .returned (.bool true) ∧ Below w.heap.size w w') := by
  obtain ⟨R, hR⟩ : ∃ R : Ending → World → Prop, R = (fun e w' => e = .returned (.bool true) ∧ Below w.heap.size w w') := ⟨_, rfl⟩
  rw [← hR]
  refine GoS.enter (n := 86) Try.func6 (by kernel_rfl) rfl [(0, v), (1, .int .i64 width)] (by kernel_rfl) (by kernel_rfl) ?_
  have hM0 := Mem.start w
  refine GoS.run [0, 1] [.n, .n, .n, .n, .n, .n, .n] _ [.inRegion (cops (csub (cd Try.f6) [1,0,0])) [0,1,2,3,4,5,6,7,8,9], .code (csub (cd Try.f6) [1,0,1]), .code (csub (cd Try.f6) [1,1])] [(0, v), (1, .int .i64 width)] w (by kernel_rfl) .nil ?_
  refine GoS.call [0, 1] 10 #[] (some 10) [.inRegion (cops (csub (cd Try.f6) [1,0,0])) [1,2,3,4,5,6,7,8,9], .code (csub (cd Try.f6) [1,0,1]), .code (csub (cd Try.f6) [1,1])] [(0, v), (1, .int .i64 width)] (by kernel_rfl) (awake_c w) ?_
  rintro _ w1 ⟨rfl, m2⟩
  refine ⟨_, rfl, ?_⟩
  have hM3 := Mem.join hM0 m2
  refine GoS.run [0, 1, 16] [.n, .n, .n, .n, .n, .n] _ [.inRegion (cops (csub (cd Try.f6) [1,0,0])) [7,8,9], .code (csub (cd Try.f6) [1,0,1]), .code (csub (cd Try.f6) [1,1])] [(0, v), (1, .int .i64 width), (16, .bool (decide (width < 1)))] w1 (by kernel_rfl) .nil ?_
  refine GoS.fork 16 (decide (width < 1)) (by kernel_rfl) (fun h4 => ?_) (fun h4 => ?_)
  ·
    have h4p : width < 1 := of_decide_eq_true h4
    refine GoS.run [0, 1, 19] [.n, .n, .n] _ [.inRegion (cops (csub (cd Try.f6) [1,0,0])) [], .code (csub (cd Try.f6) [1,0,1]), .code (csub (cd Try.f6) [1,1])] [(0, v), (1, .int .i64 width), (19, .bool true)] w1 (by kernel_rfl) .nil ?_
    refine GoS.run [] [.n, .n, .n, .n] _ [.inRegion (cops (csub (cd Try.f6) [1,0,1,0,0])) [0,1], .code (csub (cd Try.f6) [1,0,1,0,1]), .code (csub (cd Try.f6) [1,1])] [] w1 (by kernel_rfl) .nil ?_
    refine GoS.call [] 10 #[] (some 20) [.inRegion (cops (csub (cd Try.f6) [1,0,1,0,0])) [1], .code (csub (cd Try.f6) [1,0,1,0,1]), .code (csub (cd Try.f6) [1,1])] [] (by kernel_rfl) (awake_c w1) ?_
    rintro _ w5 ⟨rfl, m6⟩
    refine ⟨_, rfl, ?_⟩
    have hM7 := Mem.join hM3 m6
    refine GoS.run [4] [.n, .n] _ [.code (csub (cd Try.f6) [1,0,1,0,1]), .code (csub (cd Try.f6) [1,1])] [(4, .bool true)] w5 (by kernel_rfl) .nil ?_
    refine GoS.ret (fn := Try.f6) (v := (.bool true)) Try.func6 (by kernel_rfl) ?_
    rw [hR]
    exact ⟨rfl, hM7.below⟩
  ·
    have h4p : ¬ (width < 1) := of_decide_eq_false h4
    refine GoS.run [0, 1, 19] [.n, .n, .n] _ [.inRegion (cops (csub (cd Try.f6) [1,0,0])) [], .code (csub (cd Try.f6) [1,0,1]), .code (csub (cd Try.f6) [1,1])] [(0, v), (1, .int .i64 width), (19, .bool (decide (width > 62)))] w1 (by kernel_rfl) .nil ?_
    refine GoS.run [0, 1, 19] [.n] _ [.code (csub (cd Try.f6) [1,0,1]), .code (csub (cd Try.f6) [1,1])] [(0, v), (1, .int .i64 width), (19, .bool (decide (width > 62)))] w1 (by kernel_rfl) .nil ?_
    refine GoS.cond (decide (width > 62)) [.code (csub (cd Try.f6) [1,0,1,0]), .code (csub (cd Try.f6) [1,1])] [.code (csub (cd Try.f6) [1,0,1,1]), .code (csub (cd Try.f6) [1,1])] (by kernel_rfl) (fun h8 => ?_) (fun h8 => ?_)
    ·
      have h8p : width > 62 := of_decide_eq_true h8
      refine GoS.run [] [.n, .n] _ [.inRegion (cops (csub (cd Try.f6) [1,0,1,0,0])) [0,1], .code (csub (cd Try.f6) [1,0,1,0,1]), .code (csub (cd Try.f6) [1,1])] [] w1 (by kernel_rfl) .nil ?_
      refine GoS.call [] 10 #[] (some 20) [.inRegion (cops (csub (cd Try.f6) [1,0,1,0,0])) [1], .code (csub (cd Try.f6) [1,0,1,0,1]), .code (csub (cd Try.f6) [1,1])] [] (by kernel_rfl) (awake_c w1) ?_
      rintro _ w9 ⟨rfl, m10⟩
      refine ⟨_, rfl, ?_⟩
      have hM11 := Mem.join hM3 m10
      refine GoS.run [4] [.n, .n] _ [.code (csub (cd Try.f6) [1,0,1,0,1]), .code (csub (cd Try.f6) [1,1])] [(4, .bool true)] w9 (by kernel_rfl) .nil ?_
      refine GoS.ret (fn := Try.f6) (v := (.bool true)) Try.func6 (by kernel_rfl) ?_
      rw [hR]
      exact ⟨rfl, hM11.below⟩
    ·
      have h8p : ¬ (width > 62) := of_decide_eq_false h8
      refine GoS.run [0, 1] [.n] _ [.code (csub (cd Try.f6) [1,1])] [(0, v), (1, .int .i64 width)] w1 (by kernel_rfl) .nil ?_
      refine GoS.run [0, 1, 5, 6] [.n, .n, .n, .n, .n, .n, .n, .n, .n, .n, .n] _ [.code (csub (cd Try.f6) [1,1,1,0,1,0,0]), .inLoop (csub (cd Try.f6) [1,1,1,0,1,0,0]), .inBlock 0, .code (csub (cd Try.f6) [1,1,1,1])] [(0, v), (1, .int .i64 width), (5, .slice none 0 0), (6, .int .i64 0)] w1 (by kernel_rfl) .nil ?_
      have hM12 := hM3.nilrow 3 1
      obtain ⟨W, rfl⟩ : ∃ q : Nat, width = (q : Int) := ⟨width.toNat, by omega⟩
      exact lsmall_L v l hv hw hl W (by omega) (by omega) R hR (l.length + 1) [] (.slice none 0 0) 0 w1 (by omega) (by omega) (by simp) (by simp) hM12 (by omega)


end Go.Proofs.Ytehpfcpobemjfaa
