/-
  The walk of Pack.
-/
import Derived.Test.YthimiheeheaaaaaPackA
import Derived.Test.YthimiheeheaaaaaNumC
namespace Go.Proofs.Ythimiheeheaaaaa
open Go Go.Gw Go.NumP Go.LiveP Go.PackP Go.RowKit
set_option linter.unusedVariables false
set_option linter.unusedSimpArgs false


set_option maxHeartbeats 400000 in
theorem pack_L2 (u : Value) (l : List Int) {w0 : World} (hu : Rd w0 1 u l.length (ivals .i64 l)) (hw : ∀ n ∈ l, n ≤ 9223372036854775807) (hl : l.length ≤ 140737488355328) (hneg : negs l = false) (R : Ending → World → Prop) (hR : R = (fun e w' => e = .returned (.tuple #[.string (sb (packT l)), .int .i64 (packE l)]) ∧ Mem [] w0 w' [])) : ∀ (N : Nat) (j : Nat) (x : Value) (w : World) (hx : Rd w0 1 x (List.length (List.drop (128 * j) l)) (ivals .i64 (List.drop (128 * j) l))) (hj : 128 * j ≤ l.length + 127) (hM : Mem [] w0 w []) (hN : l.length - 128 * j < N), GoS Try.prog 26 R 37 [.code (csub (cd Try.f26) [1,1,1,0,0,0]), .inLoop (csub (cd Try.f26) [1,1,1,0,0,0]), .inBlock 2, .code (csub (cd Try.f26) [1,1,1,1])] [(0, x), (6, .string (sb ((bytesOf (numB ((List.length l : Nat) : Int))) ++ pre l j)))] w := by
  intro N
  induction N with
  | zero => intro j x w hx hj hM hN; exact absurd hN (Nat.not_lt_zero _)
  | succ N ih =>
    intro j x w hx hj hM hN
    have hfit := fun h => fit_of (l := l) h hw
    have hdl : (List.drop (128 * j) l).length = l.length - 128 * j := List.length_drop ..
    have o1 : (Builtin.len_ #[38] 3 #[x]).run Try.prog w = .ok (.int .i64 (((List.length (List.drop (128 * j) l)) : Nat) : Int)) w := f_slen sT38 (hx.kept0 hM.kept) 3 _
    refine GoS.run [0, 6, 23] [.n, .n, .n, .n, .h (.int .i64 (((List.length (List.drop (128 * j) l)) : Nat) : Int)), .n, .n] _ [.code (csub (cd Try.f26) [1,1,1,0,0,0,0,1]), .code (csub (cd Try.f26) [1,1,1,0,0,0,1]), .inLoop (csub (cd Try.f26) [1,1,1,0,0,0]), .inBlock 2, .code (csub (cd Try.f26) [1,1,1,1])] [(0, x), (6, .string (sb ((bytesOf (numB ((List.length l : Nat) : Int))) ++ pre l j))), (23, .bool (decide ((((List.length (List.drop (128 * j) l)) : Nat) : Int) > 0)))] w (by kernel_rfl) (.cons o1 .nil) ?_
    refine GoS.cond (decide ((((List.length (List.drop (128 * j) l)) : Nat) : Int) > 0)) [.code (csub (cd Try.f26) [1,1,1,0,0,0,0,1,0]), .code (csub (cd Try.f26) [1,1,1,0,0,0,1]), .inLoop (csub (cd Try.f26) [1,1,1,0,0,0]), .inBlock 2, .code (csub (cd Try.f26) [1,1,1,1])] [.code (csub (cd Try.f26) [1,1,1,0,0,0,0,1,1]), .code (csub (cd Try.f26) [1,1,1,0,0,0,1]), .inLoop (csub (cd Try.f26) [1,1,1,0,0,0]), .inBlock 2, .code (csub (cd Try.f26) [1,1,1,1])] (by kernel_rfl) (fun h2 => ?_) (fun h2 => ?_)
    ·
      have h2p : (((List.length (List.drop (128 * j) l)) : Nat) : Int) > 0 := of_decide_eq_true h2
      refine GoS.run [0, 6] [.n] _ [.code (csub (cd Try.f26) [1,1,1,0,0,0,1]), .inLoop (csub (cd Try.f26) [1,1,1,0,0,0]), .inBlock 2, .code (csub (cd Try.f26) [1,1,1,1])] [(0, x), (6, .string (sb ((bytesOf (numB ((List.length l : Nat) : Int))) ++ pre l j)))] w (by kernel_rfl) .nil ?_
      have o3 : (Builtin.len_ #[38] 3 #[x]).run Try.prog w = .ok (.int .i64 (((List.length (List.drop (128 * j) l)) : Nat) : Int)) w := f_slen sT38 (hx.kept0 hM.kept) 3 _
      have o4 : (Builtin.min_ #[3, 3] 3 #[.int .i64 (((List.length (List.drop (128 * j) l)) : Nat) : Int), .int .i64 128]).run Try.prog w = .ok (.int .i64 (((min (List.length (List.drop (128 * j) l)) 128) : Nat) : Int)) w := f_min (by split <;> omega)
      have o5 : (Instr.sliceAt 38 (x) none (some (.int .i64 (((min (List.length (List.drop (128 * j) l)) 128) : Nat) : Int))) none).run Try.prog w = .ok (cut x (min (List.length (List.drop (128 * j) l)) 128)) w := f_cut0 sT38 (hx.kept0 hM.kept) (min (List.length (List.drop (128 * j) l)) 128) (by omega) (by first | omega | (rw [List.length_drop]; omega)) _ _
      refine GoS.run [0, 7, 27, 30] [.n, .n, .n, .n, .h (.int .i64 (((List.length (List.drop (128 * j) l)) : Nat) : Int)), .h (.int .i64 (((min (List.length (List.drop (128 * j) l)) 128) : Nat) : Int)), .n, .n, .n, .n, .n, .n, .n, .h ((cut x (min (List.length (List.drop (128 * j) l)) 128)))] _ [.inRegion (cops (csub (cd Try.f26) [1,1,1,0,0,0,1,0,1,0])) [4,5,6], .code (csub (cd Try.f26) [1,1,1,0,0,0,1,0,1,1]), .inBlock 3, .inLoop (csub (cd Try.f26) [1,1,1,0,0,0]), .inBlock 2, .code (csub (cd Try.f26) [1,1,1,1])] [(0, x), (7, .int .i64 (((min (List.length (List.drop (128 * j) l)) 128) : Nat) : Int)), (27, .string (sb ((bytesOf (numB ((List.length l : Nat) : Int))) ++ pre l j))), (30, (cut x (min (List.length (List.drop (128 * j) l)) 128)))] w (by kernel_rfl) (.cons o3 (.cons o4 (.cons o5 .nil))) ?_
      refine GoS.call [0, 7, 27] 34 #[(cut x (min (List.length (List.drop (128 * j) l)) 128))] (some 31) [.inRegion (cops (csub (cd Try.f26) [1,1,1,0,0,0,1,0,1,0])) [5,6], .code (csub (cd Try.f26) [1,1,1,0,0,0,1,0,1,1]), .inBlock 3, .inLoop (csub (cd Try.f26) [1,1,1,0,0,0]), .inBlock 2, .code (csub (cd Try.f26) [1,1,1,1])] [(0, x), (7, .int .i64 (((min (List.length (List.drop (128 * j) l)) 128) : Nat) : Int)), (27, .string (sb ((bytesOf (numB ((List.length l : Nat) : Int))) ++ pre l j)))] (by kernel_rfl) (block_c (cut x (min (List.length (List.drop (128 * j) l)) 128)) (chunk l j) w (rd_castn (rd_cut1 (m := (min (List.length (List.drop (128 * j) l)) 128)) (ys := (ivals .i64 (chunk l j))) (hx.kept0 hM.kept) (by first | omega | (rw [List.length_drop]; omega)) (by unfold ivals; rw [← List.map_take, take_min])) (by rw [chunk_len, List.length_drop]; omega)) (by exact (hfit hneg).chunk _) (by rw [chunk_len]; omega)) ?_
      rintro _ w6 ⟨rfl, m7⟩
      refine ⟨_, rfl, ?_⟩
      have hM8 := Mem.join hM m7
      have hbl9 := blkB_le (l := (chunk l j)) (by exact (hfit hneg).chunk _) (by rw [chunk_len]; omega)
      have o13 : (binOp .add 9 (.string (sb ((bytesOf (numB ((List.length l : Nat) : Int))) ++ pre l j))) (.string (sb (blkB (chunk l j))))).run Try.prog w6 = .ok (.string (sb (((bytesOf (numB ((List.length l : Nat) : Int))) ++ pre l j) ++ (blkB (chunk l j))))) w6 := f_stradd (by have q1 := numB_len (l.length : Int); have q2 := pre_len (hfit hneg) j; have q3 := blkB_le ((hfit hneg).chunk j) (by rw [chunk_len]; omega); simp only [List.length_append, bytesOf_len]; rw [List.length_drop] at *; omega)
      obtain ⟨v10, hr11, hv12, _⟩ := f_from sT38 hx (min (List.length (List.drop (128 * j) l)) 128) (x := (((min (List.length (List.drop (128 * j) l)) 128) : Nat) : Int)) (by omega) (by first | omega | (rw [List.length_drop]; omega))
      replace hv12 : Rd w0 1 v10 (List.length (List.drop (128 * (j + 1)) l)) (ivals .i64 (List.drop (128 * (j + 1)) l)) := rd_cast (rd_castn hv12 (by rw [← drop_min, List.length_drop (l := List.drop (128 * j) l)])) (by unfold ivals; rw [Nat.mul_one, ← List.map_drop, drop_min])
      have o14 : (Instr.sliceAt 38 (x) (some (.int .i64 (((min (List.length (List.drop (128 * j) l)) 128) : Nat) : Int))) none none).run Try.prog w6 = .ok v10 w6 := hr11 _ _
      refine GoS.run [0, 6] [.h (.string (sb (((bytesOf (numB ((List.length l : Nat) : Int))) ++ pre l j) ++ (blkB (chunk l j))))), .n, .n, .n, .n, .n, .h (v10), .n, .n, .n, .n] _ [.code (csub (cd Try.f26) [1,1,1,0,0,0]), .inLoop (csub (cd Try.f26) [1,1,1,0,0,0]), .inBlock 2, .code (csub (cd Try.f26) [1,1,1,1])] [(0, v10), (6, .string (sb (((bytesOf (numB ((List.length l : Nat) : Int))) ++ pre l j) ++ (blkB (chunk l j)))))] w6 (by kernel_rfl) (.cons o13 (.cons o14 .nil)) ?_
      exact GoS.cast (by rw [pre_succ, List.append_assoc]) (ih (j + 1) _ _ hv12 (by rw [List.length_drop] at *; omega) hM8 (by rw [List.length_drop] at *; omega))
    ·
      have h2p : ¬ ((((List.length (List.drop (128 * j) l)) : Nat) : Int) > 0) := of_decide_eq_false h2
      refine GoS.run [2, 3] [.n, .n, .n, .n, .n, .n, .n] _ [.code (csub (cd Try.f26) [1,1,1,1,1])] [(2, .string (sb ((bytesOf (numB ((List.length l : Nat) : Int))) ++ pre l j))), (3, .int .i64 0)] w (by kernel_rfl) .nil ?_
      refine GoS.ret (fn := Try.f26) (v := (.tuple #[.string (sb ((bytesOf (numB ((List.length l : Nat) : Int))) ++ pre l j)), .int .i64 0])) Try.func26 (by kernel_rfl) ?_
      rw [hR]
      have hz : ¬ 0 < l.length - 128 * j := by rw [List.length_drop] at *; omega
      have e : j = cnt l := cnt_end hz hj
      subst e
      exact ⟨by unfold packT packE; rw [hneg]; rfl, hM⟩

set_option maxHeartbeats 400000 in
theorem pack_L1 (u : Value) (l : List Int) {w0 : World} (hu : Rd w0 1 u l.length (ivals .i64 l)) (hw : ∀ n ∈ l, n ≤ 9223372036854775807) (hl : l.length ≤ 140737488355328) (R : Ending → World → Prop) (hR : R = (fun e w' => e = .returned (.tuple #[.string (sb (packT l)), .int .i64 (packE l)]) ∧ Mem [] w0 w' [])) : ∀ (N : Nat) (k : Nat) (w : World) (hk : k ≤ l.length) (hneg : ∀ j, j < k → ¬ l.getD j 0 < 0) (hM : Mem [] w0 w []) (hN : l.length - k < N), GoS Try.prog 26 R 37 [.code (csub (cd Try.f26) [1,0,1,0,0]), .inLoop (csub (cd Try.f26) [1,0,1,0,0]), .inBlock 0, .code (csub (cd Try.f26) [1,1])] [(0, u), (8, u), (9, .int .i64 (((List.length l) : Nat) : Int)), (10, .int .i64 ((k : Nat) : Int))] w := by
  intro N
  induction N with
  | zero => intro k w hk hneg hM hN; exact absurd hN (Nat.not_lt_zero _)
  | succ N ih =>
    intro k w hk hneg hM hN
    have hat := fun (j : Nat) => True.intro
    refine GoS.run [0, 8, 9, 10, 11] [.n, .n, .n, .n, .n] _ [.code (csub (cd Try.f26) [1,0,1,0,0,1,0]), .code (csub (cd Try.f26) [1,0,1,0,0,1,1]), .inLoop (csub (cd Try.f26) [1,0,1,0,0]), .inBlock 0, .code (csub (cd Try.f26) [1,1])] [(0, u), (8, u), (9, .int .i64 (((List.length l) : Nat) : Int)), (10, .int .i64 ((k : Nat) : Int)), (11, .bool (decide (((k : Nat) : Int) < (((List.length l) : Nat) : Int))))] w (by kernel_rfl) .nil ?_
    refine GoS.cond (decide (((k : Nat) : Int) < (((List.length l) : Nat) : Int))) [.code (csub (cd Try.f26) [1,0,1,0,0,1,0,0]), .code (csub (cd Try.f26) [1,0,1,0,0,1,1]), .inLoop (csub (cd Try.f26) [1,0,1,0,0]), .inBlock 0, .code (csub (cd Try.f26) [1,1])] [.code (csub (cd Try.f26) [1,0,1,0,0,1,0,1]), .code (csub (cd Try.f26) [1,0,1,0,0,1,1]), .inLoop (csub (cd Try.f26) [1,0,1,0,0]), .inBlock 0, .code (csub (cd Try.f26) [1,1])] (by kernel_rfl) (fun h1 => ?_) (fun h1 => ?_)
    ·
      have h1p : ((k : Nat) : Int) < (((List.length l) : Nat) : Int) := of_decide_eq_true h1
      refine GoS.run [0, 8, 9, 10] [.n] _ [.code (csub (cd Try.f26) [1,0,1,0,0,1,1]), .inLoop (csub (cd Try.f26) [1,0,1,0,0]), .inBlock 0, .code (csub (cd Try.f26) [1,1])] [(0, u), (8, u), (9, .int .i64 (((List.length l) : Nat) : Int)), (10, .int .i64 ((k : Nat) : Int))] w (by kernel_rfl) .nil ?_
      obtain ⟨p12, hp13, hq14⟩ := rd_at (i := ((k : Nat) : Int)) sT38 (hu.kept0 hM.kept) k (by omega) (by first | omega | (rw [List.length_drop]; omega))
      have o16 : (Instr.indexAt 38 (u) (.int .i64 ((k : Nat) : Int))).run Try.prog w = .ok (.pointer (some p12)) w := hq14 _ _
      have hb15 := hat k
      have o17 : (Instr.loadAt 3 (.pointer (some p12))).run Try.prog w = .ok (.int .i64 (List.getD l k 0)) w := at_load pE3 (hu.kept0 hM.kept) hp13 (ivals_at (by first | omega | (rw [List.length_drop]; omega)))
      refine GoS.run [0, 8, 9, 10, 15] [.n, .n, .n, .n, .h (.pointer (some p12)), .h (.int .i64 (List.getD l k 0)), .n, .n, .n, .n, .n, .n, .n] _ [.code (csub (cd Try.f26) [1,0,1,0,0,1,1,0,0,1,1]), .inBlock 1, .code (csub (cd Try.f26) [1,0,1,0,0,1,1,1]), .inLoop (csub (cd Try.f26) [1,0,1,0,0]), .inBlock 0, .code (csub (cd Try.f26) [1,1])] [(0, u), (8, u), (9, .int .i64 (((List.length l) : Nat) : Int)), (10, .int .i64 ((k : Nat) : Int)), (15, .bool (decide ((List.getD l k 0) < 0)))] w (by kernel_rfl) (.cons o16 (.cons o17 .nil)) ?_
      refine GoS.cond (decide ((List.getD l k 0) < 0)) [.code (csub (cd Try.f26) [1,0,1,0,0,1,1,0,0,1,1,0]), .inBlock 1, .code (csub (cd Try.f26) [1,0,1,0,0,1,1,1]), .inLoop (csub (cd Try.f26) [1,0,1,0,0]), .inBlock 0, .code (csub (cd Try.f26) [1,1])] [.code (csub (cd Try.f26) [1,0,1,0,0,1,1,0,0,1,1,1]), .inBlock 1, .code (csub (cd Try.f26) [1,0,1,0,0,1,1,1]), .inLoop (csub (cd Try.f26) [1,0,1,0,0]), .inBlock 0, .code (csub (cd Try.f26) [1,1])] (by kernel_rfl) (fun h18 => ?_) (fun h18 => ?_)
      ·
        have h18p : (List.getD l k 0) < 0 := of_decide_eq_true h18
        refine GoS.run [2, 3] [.n, .n, .n, .n, .n] _ [.code (csub (cd Try.f26) [1,0,1,0,0,1,1,0,0,1,1,0,1]), .inBlock 1, .code (csub (cd Try.f26) [1,0,1,0,0,1,1,1]), .inLoop (csub (cd Try.f26) [1,0,1,0,0]), .inBlock 0, .code (csub (cd Try.f26) [1,1])] [(2, .string (sb ([]))), (3, .int .i64 1)] w (by kernel_rfl) .nil ?_
        refine GoS.ret (fn := Try.f26) (v := (.tuple #[.string (sb ([])), .int .i64 1])) Try.func26 (by kernel_rfl) ?_
        rw [hR]
        have e : negs l = true := negs_yes (by omega) h18p
        exact ⟨by unfold packT packE; rw [if_pos e, if_pos e], hM⟩
      ·
        have h18p : ¬ ((List.getD l k 0) < 0) := of_decide_eq_false h18
        refine GoS.run [0, 8, 9, 10] [.n] _ [.inBlock 1, .code (csub (cd Try.f26) [1,0,1,0,0,1,1,1]), .inLoop (csub (cd Try.f26) [1,0,1,0,0]), .inBlock 0, .code (csub (cd Try.f26) [1,1])] [(0, u), (8, u), (9, .int .i64 (((List.length l) : Nat) : Int)), (10, .int .i64 ((k : Nat) : Int))] w (by kernel_rfl) .nil ?_
        have o19 : (binOp .add 3 (.int .i64 ((k : Nat) : Int)) (.int .i64 1)).run Try.prog w = .ok (.int .i64 (((k + 1) : Nat) : Int)) w := f_add (by rw [show ((k : Nat) : Int) + 1 = (((k + 1) : Nat) : Int) by omega]; exact IntWalk.i64_in _ (by omega))
        refine GoS.run [0, 8, 9, 10] [.n, .n, .h (.int .i64 (((k + 1) : Nat) : Int)), .n, .n, .n] _ [.code (csub (cd Try.f26) [1,0,1,0,0]), .inLoop (csub (cd Try.f26) [1,0,1,0,0]), .inBlock 0, .code (csub (cd Try.f26) [1,1])] [(0, u), (8, u), (9, .int .i64 (((List.length l) : Nat) : Int)), (10, .int .i64 (((k + 1) : Nat) : Int))] w (by kernel_rfl) (.cons o19 .nil) ?_
        exact ih (k + 1) _ (by omega) (fun j hj => by rcases Nat.lt_succ_iff_lt_or_eq.1 hj with h | h; exact hneg j h; subst h; exact h18p) hM (by omega)
    ·
      have h1p : ¬ (((k : Nat) : Int) < (((List.length l) : Nat) : Int)) := of_decide_eq_false h1
      have o6 : (Builtin.len_ #[38] 3 #[u]).run Try.prog w = .ok (.int .i64 (((List.length l) : Nat) : Int)) w := f_slen sT38 (hu.kept0 hM.kept) 3 _
      obtain ⟨v2, w3, hr4, hM5⟩ := m_lit sT38 hM (n := 1) (parts := #[(0, .int .i64 (((List.length l) : Nat) : Int))]) (cs := [.int .i64 (((List.length l) : Nat) : Int)]) (by decide) (by kernel_rfl) rfl
      have o7 : (Instr.buildSlice 38 1 #[(0, .int .i64 (((List.length l) : Nat) : Int))]).run Try.prog w = .ok v2 w3 := hr4
      refine GoS.run [0, 19] [.n, .n, .n, .n, .h (.int .i64 (((List.length l) : Nat) : Int)), .u (v2) (w3)] _ [.inRegion (cops (csub (cd Try.f26) [1,1,0])) [3,4], .code (csub (cd Try.f26) [1,1,1])] [(0, u), (19, v2)] w3 (by kernel_rfl) (.cons o6 (.cons o7 .nil)) ?_
      refine GoS.call [0] 33 #[v2] (some 20) [.inRegion (cops (csub (cd Try.f26) [1,1,0])) [4], .code (csub (cd Try.f26) [1,1,1])] [(0, u)] (by kernel_rfl) (nums_c v2 ([(((List.length l) : Nat) : Int)] : List Int) (by first | exact one_bd (by omega) | simp) (by simp) w3 (hM5.rd 0 rfl)) ?_
      rintro _ w8 ⟨rfl, m9⟩
      refine ⟨_, rfl, ?_⟩
      have hM10 := Mem.join hM5 m9
      have hM11 : Mem [] w0 w8 [] := hM10.sub (List.Sublist.cons _ (List.Sublist.refl _))
      refine GoS.run [0, 6] [.n, .n, .n, .n, .n] _ [.code (csub (cd Try.f26) [1,1,1,0,0,0]), .inLoop (csub (cd Try.f26) [1,1,1,0,0,0]), .inBlock 2, .code (csub (cd Try.f26) [1,1,1,1])] [(0, u), (6, .string (sb (bytesOf (numsB ([(((List.length l) : Nat) : Int)] : List Int)))))] w8 (by kernel_rfl) .nil ?_
      have hn : negs l = false := negs_no fun j hj => hneg j (by omega)
      exact GoS.cast (by rw [pre_zero, List.append_nil]; first | done | simp [numsB]) (pack_L2 u l hu hw hl hn R hR (l.length + 1) 0 u w8 (by rw [Nat.mul_zero]; exact hu) (by omega) hM11 (by omega))

set_option maxHeartbeats 400000 in
theorem pack_c (u : Value) (l : List Int) (w : World) (hu : Rd w 1 u l.length (ivals .i64 l)) (hw : ∀ n ∈ l, n ≤ 9223372036854775807) (hl : l.length ≤ 140737488355328) :
    Calls Try.prog 26 #[u] w (fun e w' => e = .returned (.tuple #[.string (sb (packT l)), .int .i64 (packE l)]) ∧ Mem [] w w' []) := by
  obtain ⟨R, hR⟩ : ∃ R : Ending → World → Prop, R = (fun e w' => e = .returned (.tuple #[.string (sb (packT l)), .int .i64 (packE l)]) ∧ Mem [] w w' []) := ⟨_, rfl⟩
  rw [← hR]
  refine GoS.enter (n := 37) Try.func26 (by kernel_rfl) rfl [(0, u)] (by kernel_rfl) (by kernel_rfl) ?_
  have hM0 := Mem.start w
  have o1 : (Builtin.len_ #[38] 3 #[u]).run Try.prog w = .ok (.int .i64 (((List.length l) : Nat) : Int)) w := f_slen sT38 (hu.kept0 hM0.kept) 3 _
  refine GoS.run [0, 8, 9, 10] [.n, .n, .n, .n, .n, .n, .n, .n, .n, .h (.int .i64 (((List.length l) : Nat) : Int)), .n, .n, .n, .n] _ [.code (csub (cd Try.f26) [1,0,1,0,0]), .inLoop (csub (cd Try.f26) [1,0,1,0,0]), .inBlock 0, .code (csub (cd Try.f26) [1,1])] [(0, u), (8, u), (9, .int .i64 (((List.length l) : Nat) : Int)), (10, .int .i64 0)] w (by kernel_rfl) (.cons o1 .nil) ?_
  exact pack_L1 u l hu hw hl R hR (l.length + 1) 0 w (by omega) (by intro j hj; omega) hM0 (by omega)


end Go.Proofs.Ythimiheeheaaaaa
