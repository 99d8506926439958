/-
  The walks of New, Live, Kill, Count, Copy of a set.
-/
import Derived.Test.YtiifhlhmkpcaeaaNumF
import Derived.Test.YtiifhlhmkpcaeaaLiveP
import Derived.Test.YtiifhlhmkpcaeaaHeld
namespace Go.Proofs.Ytiifhlhmkpcaeaa
open Go Go.Gw Go.NumP Go.LiveP Go.RowKit
set_option linter.unusedVariables false
set_option linter.unusedSimpArgs false

theorem sT47 : SliceT Try.prog 47 4 1 1 (.bool false) := ⟨by kernel_rfl, ⟨_, rfl, by kernel_rfl, by kernel_rfl, by kernel_rfl⟩, rfl, by decide⟩
theorem pE4 : Plain Try.prog 4 := ⟨.bool, by kernel_rfl, (fun _ h => by cases h), (fun _ _ h => by cases h)⟩
theorem pE47 : Plain Try.prog 47 := ⟨.slice 4, by kernel_rfl, (fun _ h => by cases h), (fun _ _ h => by cases h)⟩

set_option maxHeartbeats 400000 in
theorem lnew_c (n : Int) (w : World) :
    Calls Try.prog 8 #[.int .i64 n] w (fun e w' => (newE n ≠ 0 ∧ e = .returned (.tuple #[.pointer none, .int .i64 (newE n)]) ∧ Mem [] w w' []) ∨ (newE n = 0 ∧ ∃ b v, e = .returned (.tuple #[.pointer (some ⟨b, 0, none⟩), .int .i64 0]) ∧ Mem [] w w' [⟨49, 2, (obj b), 1, [v, .int .i64 (((lft (List.replicate (Int.toNat n) false)) : Nat) : Int)]⟩, ⟨4, 1, v, (List.length (List.replicate (Int.toNat n) false)), (bvals (List.replicate (Int.toNat n) false))⟩])) := by
  obtain ⟨R, hR⟩ : ∃ R : Ending → World → Prop, R = (fun e w' => (newE n ≠ 0 ∧ e = .returned (.tuple #[.pointer none, .int .i64 (newE n)]) ∧ Mem [] w w' []) ∨ (newE n = 0 ∧ ∃ b v, e = .returned (.tuple #[.pointer (some ⟨b, 0, none⟩), .int .i64 0]) ∧ Mem [] w w' [⟨49, 2, (obj b), 1, [v, .int .i64 (((lft (List.replicate (Int.toNat n) false)) : Nat) : Int)]⟩, ⟨4, 1, v, (List.length (List.replicate (Int.toNat n) false)), (bvals (List.replicate (Int.toNat n) false))⟩])) := ⟨_, rfl⟩
  rw [← hR]
  refine GoS.enter (n := 15) Try.func8 (by kernel_rfl) rfl [(0, .int .i64 n)] (by kernel_rfl) (by kernel_rfl) ?_
  have hM0 := Mem.start w
  refine GoS.run [0, 4] [.n, .n, .n, .n, .n, .n, .n, .n, .n, .n, .n, .n, .n] _ [.code (csub (cd Try.f8) [1,0,0,1]), .inBlock 0, .code (csub (cd Try.f8) [1,1])] [(0, .int .i64 n), (4, .bool (decide (n < 0)))] w (by kernel_rfl) .nil ?_
  refine GoS.cond (decide (n < 0)) [.code (csub (cd Try.f8) [1,0,0,1,0]), .inBlock 0, .code (csub (cd Try.f8) [1,1])] [.code (csub (cd Try.f8) [1,0,0,1,1]), .inBlock 0, .code (csub (cd Try.f8) [1,1])] (by kernel_rfl) (fun h1 => ?_) (fun h1 => ?_)
  ·
    have h1p : n < 0 := of_decide_eq_true h1
    refine GoS.run [2, 3] [.n, .n, .n, .n, .n] _ [.code (csub (cd Try.f8) [1,0,0,1,0,1]), .inBlock 0, .code (csub (cd Try.f8) [1,1])] [(2, .pointer none), (3, .int .i64 1)] w (by kernel_rfl) .nil ?_
    refine GoS.ret (fn := Try.f8) (v := (.tuple #[.pointer none, .int .i64 1])) Try.func8 (by kernel_rfl) ?_
    rw [hR]
    have e : newE n = 1 := by unfold newE; (repeat' split) <;> omega
    exact .inl ⟨by omega, by rw [e], hM0⟩
  ·
    have h1p : ¬ (n < 0) := of_decide_eq_false h1
    refine GoS.run [0, 7] [.n, .n, .n, .n, .n, .n] _ [.code (csub (cd Try.f8) [1,0,0,1,1,1]), .inBlock 0, .code (csub (cd Try.f8) [1,1])] [(0, .int .i64 n), (7, .bool (decide (n > 1048576)))] w (by kernel_rfl) .nil ?_
    refine GoS.cond (decide (n > 1048576)) [.code (csub (cd Try.f8) [1,0,0,1,1,1,0]), .inBlock 0, .code (csub (cd Try.f8) [1,1])] [.code (csub (cd Try.f8) [1,0,0,1,1,1,1]), .inBlock 0, .code (csub (cd Try.f8) [1,1])] (by kernel_rfl) (fun h2 => ?_) (fun h2 => ?_)
    ·
      have h2p : n > 1048576 := of_decide_eq_true h2
      refine GoS.run [2, 3] [.n, .n, .n, .n, .n] _ [.code (csub (cd Try.f8) [1,0,0,1,1,1,0,1]), .inBlock 0, .code (csub (cd Try.f8) [1,1])] [(2, .pointer none), (3, .int .i64 4)] w (by kernel_rfl) .nil ?_
      refine GoS.ret (fn := Try.f8) (v := (.tuple #[.pointer none, .int .i64 4])) Try.func8 (by kernel_rfl) ?_
      rw [hR]
      have e : newE n = 4 := by unfold newE; (repeat' split) <;> omega
      exact .inl ⟨by omega, by rw [e], hM0⟩
    ·
      have h2p : ¬ (n > 1048576) := of_decide_eq_false h2
      refine GoS.run [0] [.n] _ [.inBlock 0, .code (csub (cd Try.f8) [1,1])] [(0, .int .i64 n)] w (by kernel_rfl) .nil ?_
      obtain ⟨v3, w4, hr5, hM6⟩ := m_make (x := n) (y := n) sT47 rfl hM0 (Int.toNat n) (by omega) (by omega) (by first | omega | (dsimp only; omega)) (by first | omega | (dsimp only; omega)) .i64 .i64
      have hM7 : Mem [] w w4 [⟨4, 1, v3, (Int.toNat n), (bvals (List.replicate (Int.toNat n) false))⟩] := hM6.cast (by simp [ivals, svals, bvals])
      have o13 : (Instr.makeSlice 47 (.int .i64 n) (.int .i64 n)).run Try.prog w = .ok v3 w4 := hr5
      have o14 : (Instr.build 49 #[(0, v3), (1, .int .i64 n)]).run Try.prog w4 = .ok (.agg #[v3, .int .i64 n]) w4 := (by obtain ⟨a0_, m0_, c0_, e0_⟩ : ∃ a m c, v3 = Value.slice a m c := rd_form (hM7.rd 0 rfl); rw [e0_]; kernel_rfl)
      obtain ⟨b8, w9, hr10, hM11⟩ := m_box (T := 49) (k := 2) (u := .agg #[v3, .int .i64 n]) rfl rfl hM7
      have hM12 : Mem [] w w9 [⟨49, 2, (obj b8), 1, [v3, .int .i64 n]⟩, ⟨4, 1, v3, (Int.toNat n), (bvals (List.replicate (Int.toNat n) false))⟩] := hM11
      have o15 : (Instr.box 49 (.agg #[v3, .int .i64 n])).run Try.prog w4 = .ok (.pointer (some (⟨b8, 0, none⟩))) w9 := hr10
      refine GoS.run [2, 3] [.n, .n, .n, .n, .u (v3) (w4), .n, .h (.agg #[v3, .int .i64 n]), .u (.pointer (some (⟨b8, 0, none⟩))) (w9), .n, .n, .n] _ [.code (csub (cd Try.f8) [1,1,1])] [(2, .pointer (some (⟨b8, 0, none⟩))), (3, .int .i64 0)] w9 (by kernel_rfl) (.cons o13 (.cons o14 (.cons o15 .nil))) ?_
      refine GoS.ret (fn := Try.f8) (v := (.tuple #[.pointer (some (⟨b8, 0, none⟩)), .int .i64 0])) Try.func8 (by kernel_rfl) ?_
      rw [hR]
      have e : newE n = 0 := by unfold newE; (repeat' split) <;> omega
      have e2 : ((lft (List.replicate (Int.toNat n) false) : Nat) : Int) = n := by rw [lft_new]; omega
      exact .inr ⟨e, _, _, rfl, hM12.cast (by rw [e2, List.length_replicate])⟩

set_option maxHeartbeats 400000 in
theorem live_c (b : Nat) (v : Value) (g : List Bool) (x : Value) (d : Int) (w : World) (k1 : Rd w 2 (obj b) 1 [v, x]) (k2 : Rd w 1 v (List.length g) (bvals g)) :
    Calls Try.prog 15 #[.pointer (some (⟨b, 0, none⟩)), .int .i64 d] w (fun e w' => e = .returned (.bool (lvB g d)) ∧ w = w') := by
  obtain ⟨R, hR⟩ : ∃ R : Ending → World → Prop, R = (fun e w' => e = .returned (.bool (lvB g d)) ∧ w = w') := ⟨_, rfl⟩
  rw [← hR]
  refine GoS.enter (n := 30) Try.func15 (by kernel_rfl) rfl [(0, .pointer (some (⟨b, 0, none⟩))), (1, .int .i64 d)] (by kernel_rfl) (by kernel_rfl) ?_
  refine GoS.run [0, 1, 11] [.n, .n, .n, .n, .n, .n, .n, .n, .n, .n, .n, .n, .n] _ [.inRegion (cops (csub (cd Try.f15) [1,0])) [7,8,9,10,11,12,13,14,15,16,17,18,19,20,21,22,23,24,25], .code (csub (cd Try.f15) [1,1])] [(0, .pointer (some (⟨b, 0, none⟩))), (1, .int .i64 d), (11, .bool (decide (d ≥ 0)))] w (by kernel_rfl) .nil ?_
  refine GoS.fork 11 (decide (d ≥ 0)) (by kernel_rfl) (fun h1 => ?_) (fun h1 => ?_)
  ·
    have h1p : d ≥ 0 := of_decide_eq_true h1
    have o2 : (Instr.loadAt 47 (.pointer (some (⟨b, 0, none⟩)))).run Try.prog w = .ok (v) w := c_load pE47 k1 (cel_obj b 0) rfl
    have o3 : (Builtin.len_ #[47] 3 #[v]).run Try.prog w = .ok (.int .i64 (((List.length g) : Nat) : Int)) w := f_slen sT47 k2 3 _
    refine GoS.run [0, 1, 20] [.n, .n, .n, .n, .h (v), .h (.int .i64 (((List.length g) : Nat) : Int)), .n, .n, .n] _ [.inRegion (cops (csub (cd Try.f15) [1,0])) [16,17,18,19,20,21,22,23,24,25], .code (csub (cd Try.f15) [1,1])] [(0, .pointer (some (⟨b, 0, none⟩))), (1, .int .i64 d), (20, .bool (decide (d < (((List.length g) : Nat) : Int))))] w (by kernel_rfl) (.cons o2 (.cons o3 .nil)) ?_
    refine GoS.fork 20 (decide (d < (((List.length g) : Nat) : Int))) (by kernel_rfl) (fun h4 => ?_) (fun h4 => ?_)
    ·
      have h4p : d < (((List.length g) : Nat) : Int) := of_decide_eq_true h4
      have o8 : (Instr.loadAt 47 (.pointer (some (⟨b, 0, none⟩)))).run Try.prog w = .ok (v) w := c_load pE47 k1 (cel_obj b 0) rfl
      obtain ⟨p5, hp6, hq7⟩ := rd_at (i := d) sT47 k2 (Int.toNat d) (by omega) (by first | omega | (dsimp only; omega))
      have o9 : (Instr.indexAt 47 (v) (.int .i64 d)).run Try.prog w = .ok (.pointer (some p5)) w := hq7 _ _
      have o10 : (Instr.loadAt 4 (.pointer (some p5))).run Try.prog w = .ok (.bool (List.getD g (Int.toNat d) false)) w := at_load pE4 k2 hp6 (bvals_at (by first | omega | (dsimp only; omega)))
      refine GoS.run [4] [.n, .n, .n, .h (v), .n, .h (.pointer (some p5)), .h (.bool (List.getD g (Int.toNat d) false)), .n, .n, .n] _ [.inRegion (cops (csub (cd Try.f15) [1,0])) [], .code (csub (cd Try.f15) [1,1])] [(4, .bool (!(List.getD g (Int.toNat d) false)))] w (by kernel_rfl) (.cons o8 (.cons o9 (.cons o10 .nil))) ?_
      refine GoS.run [4] [.n] _ [.code (csub (cd Try.f15) [1,1])] [(4, .bool (!(List.getD g (Int.toNat d) false)))] w (by kernel_rfl) .nil ?_
      refine GoS.ret (fn := Try.f15) (v := (.bool (!(List.getD g (Int.toNat d) false)))) Try.func15 (by kernel_rfl) ?_
      rw [hR]
      exact ⟨ret_bool (lvB_in (by omega) (by omega)).symm, rfl⟩
    ·
      have h4p : ¬ (d < (((List.length g) : Nat) : Int)) := of_decide_eq_false h4
      refine GoS.run [4] [.n, .n, .n, .n, .n, .n, .n, .n, .n, .n] _ [.inRegion (cops (csub (cd Try.f15) [1,0])) [], .code (csub (cd Try.f15) [1,1])] [(4, .bool false)] w (by kernel_rfl) .nil ?_
      refine GoS.run [4] [.n] _ [.code (csub (cd Try.f15) [1,1])] [(4, .bool false)] w (by kernel_rfl) .nil ?_
      refine GoS.ret (fn := Try.f15) (v := (.bool false)) Try.func15 (by kernel_rfl) ?_
      rw [hR]
      exact ⟨ret_bool (lvB_out (by omega)).symm, rfl⟩
  ·
    have h1p : ¬ (d ≥ 0) := of_decide_eq_false h1
    refine GoS.run [4] [.n, .n, .n, .n, .n, .n, .n, .n, .n, .n, .n, .n, .n, .n, .n, .n, .n, .n, .n] _ [.inRegion (cops (csub (cd Try.f15) [1,0])) [], .code (csub (cd Try.f15) [1,1])] [(4, .bool false)] w (by kernel_rfl) .nil ?_
    refine GoS.run [4] [.n] _ [.code (csub (cd Try.f15) [1,1])] [(4, .bool false)] w (by kernel_rfl) .nil ?_
    refine GoS.ret (fn := Try.f15) (v := (.bool false)) Try.func15 (by kernel_rfl) ?_
    rw [hR]
    exact ⟨ret_bool (lvB_out (by omega)).symm, rfl⟩

set_option maxHeartbeats 400000 in
theorem live_n (d : Int) (w : World) :
    Calls Try.prog 15 #[.pointer none, .int .i64 d] w (fun e w' => e = .returned (.bool false) ∧ w = w') := by
  obtain ⟨R, hR⟩ : ∃ R : Ending → World → Prop, R = (fun e w' => e = .returned (.bool false) ∧ w = w') := ⟨_, rfl⟩
  rw [← hR]
  refine GoS.enter (n := 30) Try.func15 (by kernel_rfl) rfl [(0, .pointer none), (1, .int .i64 d)] (by kernel_rfl) (by kernel_rfl) ?_
  refine GoS.run [4] [.n, .n, .n, .n, .n, .n, .n, .n, .n, .n, .n, .n, .n, .n, .n, .n, .n, .n, .n, .n, .n, .n, .n, .n, .n, .n, .n, .n, .n, .n, .n, .n, .n] _ [.code (csub (cd Try.f15) [1,1])] [(4, .bool false)] w (by kernel_rfl) .nil ?_
  refine GoS.ret (fn := Try.f15) (v := (.bool false)) Try.func15 (by kernel_rfl) ?_
  rw [hR]
  exact ⟨rfl, rfl⟩

theorem p_nt2 {b : Bool} (h : (!b) = true) : b = false := by simpa using h
theorem p_nf2 {b : Bool} (h : (!b) = false) : b = true := by simpa using h
set_option maxHeartbeats 400000 in
theorem kill_c {S : List Nat} {w0 : World} (b : Nat) (v : Value) (g : List Bool) (hg : g.length ≤ 1048576) (d : Int) (w : World) (hM : Mem S w0 w [⟨49, 2, (obj b), 1, [v, .int .i64 (((lft g) : Nat) : Int)]⟩, ⟨4, 1, v, (List.length g), (bvals g)⟩]) :
    Calls Try.prog 12 #[.pointer (some (⟨b, 0, none⟩)), .int .i64 d] w (fun e w' => e = .returned (.bool (lvB g d)) ∧ Mem S w0 w' [⟨49, 2, (obj b), 1, [v, .int .i64 (((lft (killG g d)) : Nat) : Int)]⟩, ⟨4, 1, v, (List.length (killG g d)), (bvals (killG g d))⟩]) := by
  have hlf := lft_le g
  obtain ⟨R, hR⟩ : ∃ R : Ending → World → Prop, R = (fun e w' => e = .returned (.bool (lvB g d)) ∧ Mem S w0 w' [⟨49, 2, (obj b), 1, [v, .int .i64 (((lft (killG g d)) : Nat) : Int)]⟩, ⟨4, 1, v, (List.length (killG g d)), (bvals (killG g d))⟩]) := ⟨_, rfl⟩
  rw [← hR]
  refine GoS.enter (n := 22) Try.func12 (by kernel_rfl) rfl [(0, .pointer (some (⟨b, 0, none⟩))), (1, .int .i64 d)] (by kernel_rfl) (by kernel_rfl) ?_
  refine GoS.run [0, 1, 5, 6] [.n, .n, .n, .n, .n, .n, .n, .n, .n] _ [.inRegion (cops (csub (cd Try.f12) [1,0,0])) [2,3], .code (csub (cd Try.f12) [1,0,1]), .code (csub (cd Try.f12) [1,1])] [(0, .pointer (some (⟨b, 0, none⟩))), (1, .int .i64 d), (5, .pointer (some (⟨b, 0, none⟩))), (6, .int .i64 d)] w (by kernel_rfl) .nil ?_
  refine GoS.call [0, 1] 15 #[.pointer (some (⟨b, 0, none⟩)), .int .i64 d] (some 7) [.inRegion (cops (csub (cd Try.f12) [1,0,0])) [3], .code (csub (cd Try.f12) [1,0,1]), .code (csub (cd Try.f12) [1,1])] [(0, .pointer (some (⟨b, 0, none⟩))), (1, .int .i64 d)] (by kernel_rfl) (live_c b v g (.int .i64 (((lft g) : Nat) : Int)) d w (hM.rd 0 rfl) (hM.rd 1 rfl)) ?_
  rintro _ _ ⟨rfl, rfl⟩
  refine ⟨_, rfl, ?_⟩
  refine GoS.run [0, 1, 8] [.n, .n] _ [.code (csub (cd Try.f12) [1,0,1]), .code (csub (cd Try.f12) [1,1])] [(0, .pointer (some (⟨b, 0, none⟩))), (1, .int .i64 d), (8, .bool (!(lvB g d)))] w (by kernel_rfl) .nil ?_
  refine GoS.cond (!(lvB g d)) [.code (csub (cd Try.f12) [1,0,1,0]), .code (csub (cd Try.f12) [1,1])] [.code (csub (cd Try.f12) [1,0,1,1]), .code (csub (cd Try.f12) [1,1])] (by kernel_rfl) (fun h1 => ?_) (fun h1 => ?_)
  ·
    refine GoS.run [4] [.n, .n, .n, .n] _ [.code (csub (cd Try.f12) [1,0,1,0,1]), .code (csub (cd Try.f12) [1,1])] [(4, .bool false)] w (by kernel_rfl) .nil ?_
    refine GoS.ret (fn := Try.f12) (v := (.bool false)) Try.func12 (by kernel_rfl) ?_
    rw [hR]
    exact ⟨ret_bool (p_nt2 h1).symm, hM.cast (by rw [killG_no (p_nt2 h1)])⟩
  ·
    have h1p : (0 : Int) ≤ d ∧ (d : Int) < ((List.length g : Nat) : Int) := ⟨(lvB_yes (p_nt h1)).1, (lvB_yes (p_nt h1)).2.1⟩
    have h1p1 : 1 ≤ lft g := lft_pos (p_nt h1)
    refine GoS.run [0, 1] [.n] _ [.code (csub (cd Try.f12) [1,1])] [(0, .pointer (some (⟨b, 0, none⟩))), (1, .int .i64 d)] w (by kernel_rfl) .nil ?_
    have o13 : (Instr.loadAt 47 (.pointer (some (⟨b, 0, none⟩)))).run Try.prog w = .ok (v) w := c_load pE47 (hM.rd 0 rfl) (cel_obj b 0) rfl
    obtain ⟨p2, hp3, hq4⟩ := rd_at (i := d) sT47 (hM.rd 1 rfl) (Int.toNat d) (by omega) (by first | omega | (dsimp only; omega))
    have o14 : (Instr.indexAt 47 (v) (.int .i64 d)).run Try.prog w = .ok (.pointer (some p2)) w := hq4 _ _
    obtain ⟨w5, hr6, hM7⟩ := at_store (u := .bool true) (by kernel_rfl) hM 1 rfl hp3 (by first | omega | (dsimp only; omega)) rfl rfl
    have hM8 : Mem S w0 w5 [⟨49, 2, (obj b), 1, [v, .int .i64 (((lft g) : Nat) : Int)]⟩, ⟨4, 1, v, (List.length g), (bvals (List.set g (Int.toNat d) true))⟩] := hM7.cast (by simp [ivals, svals, bvals, nvals, u8s, List.map_set])
    have o15 : (Instr.storeAt 4 (.pointer (some p2)) (.bool true)).run Try.prog w = .ok () w5 ∧ undef = undef := ⟨hr6, rfl⟩
    have o16 : (Instr.loadAt 3 (.pointer (some (⟨b, 1, none⟩)))).run Try.prog w5 = .ok (.int .i64 (((lft g) : Nat) : Int)) w5 := c_load pE3 (hM8.rd 0 rfl) (cel_obj b 1) rfl
    have o17 : (binOp .sub 3 (.int .i64 (((lft g) : Nat) : Int)) (.int .i64 1)).run Try.prog w5 = .ok (.int .i64 ((((lft g) : Nat) : Int) - 1)) w5 := f_sub (IntWalk.i64_in _ (by omega))
    obtain ⟨w9, hr10, hM11⟩ := c_store (u := .int .i64 ((((lft g) : Nat) : Int) - 1)) (by kernel_rfl) hM8 0 rfl (cel_obj b 1) (by decide) rfl rfl
    have hM12 : Mem S w0 w9 [⟨49, 2, (obj b), 1, [v, .int .i64 ((((lft g) : Nat) : Int) - 1)]⟩, ⟨4, 1, v, (List.length g), (bvals (List.set g (Int.toNat d) true))⟩] := hM11
    have o18 : (Instr.storeAt 3 (.pointer (some (⟨b, 1, none⟩))) (.int .i64 ((((lft g) : Nat) : Int) - 1))).run Try.prog w5 = .ok () w9 ∧ undef = undef := ⟨hr10, rfl⟩
    refine GoS.run [4] [.n, .n, .n, .n, .n, .h (v), .n, .h (.pointer (some p2)), .u (undef) (w5), .n, .n, .n, .n, .n, .n, .h (.int .i64 (((lft g) : Nat) : Int)), .h (.int .i64 ((((lft g) : Nat) : Int) - 1)), .n, .n, .u (undef) (w9), .n, .n, .n, .n, .n] _ [.code (csub (cd Try.f12) [1,1,1,1,1])] [(4, .bool true)] w9 (by kernel_rfl) (.cons o13 (.cons o14 (.cons o15 (.cons o16 (.cons o17 (.cons o18 .nil)))))) ?_
    refine GoS.ret (fn := Try.f12) (v := (.bool true)) Try.func12 (by kernel_rfl) ?_
    rw [hR]
    exact ⟨ret_bool (p_nf2 h1).symm, hM12.cast (by rw [killG_len, lft_kill (p_nf2 h1), killG_yes (p_nf2 h1)])⟩

set_option maxHeartbeats 400000 in
theorem kill_n (d : Int) (w : World) :
    Calls Try.prog 12 #[.pointer none, .int .i64 d] w (fun e w' => e = .returned (.bool false) ∧ w = w') := by
  obtain ⟨R, hR⟩ : ∃ R : Ending → World → Prop, R = (fun e w' => e = .returned (.bool false) ∧ w = w') := ⟨_, rfl⟩
  rw [← hR]
  refine GoS.enter (n := 22) Try.func12 (by kernel_rfl) rfl [(0, .pointer none), (1, .int .i64 d)] (by kernel_rfl) (by kernel_rfl) ?_
  refine GoS.run [0, 1, 5, 6] [.n, .n, .n, .n, .n, .n, .n, .n, .n] _ [.inRegion (cops (csub (cd Try.f12) [1,0,0])) [2,3], .code (csub (cd Try.f12) [1,0,1]), .code (csub (cd Try.f12) [1,1])] [(0, .pointer none), (1, .int .i64 d), (5, .pointer none), (6, .int .i64 d)] w (by kernel_rfl) .nil ?_
  refine GoS.call [0, 1] 15 #[.pointer none, .int .i64 d] (some 7) [.inRegion (cops (csub (cd Try.f12) [1,0,0])) [3], .code (csub (cd Try.f12) [1,0,1]), .code (csub (cd Try.f12) [1,1])] [(0, .pointer none), (1, .int .i64 d)] (by kernel_rfl) (live_n d w) ?_
  rintro _ _ ⟨rfl, rfl⟩
  refine ⟨_, rfl, ?_⟩
  refine GoS.run [4] [.n, .n, .n, .n, .n, .n, .n] _ [.code (csub (cd Try.f12) [1,0,1,0,1]), .code (csub (cd Try.f12) [1,1])] [(4, .bool false)] w (by kernel_rfl) .nil ?_
  refine GoS.ret (fn := Try.f12) (v := (.bool false)) Try.func12 (by kernel_rfl) ?_
  rw [hR]
  exact ⟨rfl, rfl⟩

set_option maxHeartbeats 400000 in
theorem count_c (b : Nat) (v : Value) (g : List Bool) (x : Value) (w : World) (k1 : Rd w 2 (obj b) 1 [v, x]) (k2 : Rd w 1 v (List.length g) (bvals g)) :
    Calls Try.prog 14 #[.pointer (some (⟨b, 0, none⟩))] w (fun e w' => e = .returned (.tuple #[.int .i64 ((List.length g : Nat) : Int), x]) ∧ Dr w w') := by
  obtain ⟨R, hR⟩ : ∃ R : Ending → World → Prop, R = (fun e w' => e = .returned (.tuple #[.int .i64 ((List.length g : Nat) : Int), x]) ∧ Dr w w') := ⟨_, rfl⟩
  rw [← hR]
  refine GoS.enter (n := 15) Try.func14 (by kernel_rfl) rfl [(0, .pointer (some (⟨b, 0, none⟩)))] (by kernel_rfl) (by kernel_rfl) ?_
  have hD0 := Dr.refl w
  refine GoS.run [0] [.n, .n, .n, .n, .n, .n, .n, .n, .n, .n, .n, .n, .n, .n] _ [.code (csub (cd Try.f14) [1,1,0]), .code (csub (cd Try.f14) [1,1,1])] [(0, .pointer (some (⟨b, 0, none⟩)))] w (by kernel_rfl) .nil ?_
  refine GoS.drawC (fun W_ => Dr w W_) 3 (by kernel_rfl) [2, 3] [.u (.pointer (some (⟨b, 0, none⟩))) w, .u (.pointer (some (⟨b, 0, none⟩))) w, .u (.pointer (some (⟨b, 0, none⟩))) w, .h (v), .h (.int .i64 (((List.length g) : Nat) : Int)), .u (.pointer (some (⟨b, 0, none⟩))) w, .u (.pointer (some (⟨b, 0, none⟩))) w, .u (.pointer (some (⟨b, 1, none⟩))) w, .h (x), .u (.int .i64 (((List.length g) : Nat) : Int)) w, .u (x) w] (fun W_ => [(Instr.loadAt 47 (.pointer (some (⟨b, 0, none⟩)))).run Try.prog W_ = .ok (v) W_, (Builtin.len_ #[47] 3 #[v]).run Try.prog W_ = .ok (.int .i64 (((List.length g) : Nat) : Int)) W_, (Instr.loadAt 3 (.pointer (some (⟨b, 1, none⟩)))).run Try.prog W_ = .ok (x) W_]) [(.pointer (some (⟨b, 0, none⟩)), .pointer (some (⟨b, 0, none⟩))), (.pointer (some (⟨b, 0, none⟩)), .pointer (some (⟨b, 0, none⟩))), (.pointer (some (⟨b, 0, none⟩)), .pointer (some (⟨b, 0, none⟩))), (.pointer (some (⟨b, 0, none⟩)), .pointer (some (⟨b, 0, none⟩))), (.pointer (some (⟨b, 0, none⟩)), .pointer (some (⟨b, 0, none⟩))), (.pointer (some (⟨b, 1, none⟩)), .pointer (some (⟨b, 1, none⟩))), (.int .i64 (((List.length g) : Nat) : Int), .int .i64 (((List.length g) : Nat) : Int)), (x, x)] [(2, .int .i64 (((List.length g) : Nat) : Int)), (3, x)] (by kernel_rfl) (by kernel_rfl) ([(3, x), (2, .int .i64 (((List.length g) : Nat) : Int)), (14, x), (13, .pointer (some (⟨b, 1, none⟩))), (12, .pointer (some (⟨b, 0, none⟩))), (11, .pointer (some (⟨b, 0, none⟩))), (10, .int .i64 (((List.length g) : Nat) : Int)), (9, v), (8, .pointer (some (⟨b, 0, none⟩))), (7, .pointer (some (⟨b, 0, none⟩))), (6, .pointer (some (⟨b, 0, none⟩)))] ++ [(0, .pointer (some (⟨b, 0, none⟩)))]) (fun W_ => by kernel_rfl) (by kernel_rfl) (.cons rfl (.cons rfl (.cons rfl (.cons rfl (.cons rfl (.cons rfl (.cons rfl (.cons rfl Obs.nil)))))))) ⟨1, rfl⟩ (fun W_ hW_ => (.cons (c_load pE47 ((k1.dr hD0).dr hW_) (cel_obj b 0) rfl) (.cons (f_slen sT47 (k2.dr hD0) 3 _) (.cons (c_load pE3 ((k1.dr hD0).dr hW_) (cel_obj b 1) rfl) Obs.nil)))) (fun w1 hw2 => ?_)
  have hD3 := hD0.trans hw2
  refine GoS.ret (fn := Try.f14) (v := (.tuple #[.int .i64 (((List.length g) : Nat) : Int), x])) Try.func14 (by kernel_rfl) ?_
  rw [hR]
  exact ⟨rfl, hD3⟩

set_option maxHeartbeats 400000 in
theorem count_n (w : World) :
    Calls Try.prog 14 #[.pointer none] w (fun e w' => e = .returned (.tuple #[.int .i64 0, .int .i64 0]) ∧ w = w') := by
  obtain ⟨R, hR⟩ : ∃ R : Ending → World → Prop, R = (fun e w' => e = .returned (.tuple #[.int .i64 0, .int .i64 0]) ∧ w = w') := ⟨_, rfl⟩
  rw [← hR]
  refine GoS.enter (n := 15) Try.func14 (by kernel_rfl) rfl [(0, .pointer none)] (by kernel_rfl) (by kernel_rfl) ?_
  refine GoS.run [2, 3] [.n, .n, .n, .n, .n, .n, .n, .n, .n, .n, .n, .n, .n, .n, .n, .n, .n] _ [.code (csub (cd Try.f14) [1,0,1,0,1]), .code (csub (cd Try.f14) [1,1])] [(2, .int .i64 0), (3, .int .i64 0)] w (by kernel_rfl) .nil ?_
  refine GoS.ret (fn := Try.f14) (v := (.tuple #[.int .i64 0, .int .i64 0])) Try.func14 (by kernel_rfl) ?_
  rw [hR]
  exact ⟨rfl, rfl⟩

set_option maxHeartbeats 400000 in
theorem copy_c (b : Nat) (v : Value) (g : List Bool) (hg : g.length ≤ 1048576) (w : World) (k1 : Rd w 2 (obj b) 1 [v, .int .i64 ((lft g : Nat) : Int)]) (k2 : Rd w 1 v (List.length g) (bvals g)) :
    Calls Try.prog 10 #[.pointer (some (⟨b, 0, none⟩))] w (fun e w' => ∃ b v, e = .returned (.pointer (some ⟨b, 0, none⟩)) ∧ Mem [] w w' [⟨49, 2, (obj b), 1, [v, .int .i64 (((lft g) : Nat) : Int)]⟩, ⟨4, 1, v, (List.length g), (bvals g)⟩]) := by
  obtain ⟨R, hR⟩ : ∃ R : Ending → World → Prop, R = (fun e w' => ∃ b v, e = .returned (.pointer (some ⟨b, 0, none⟩)) ∧ Mem [] w w' [⟨49, 2, (obj b), 1, [v, .int .i64 (((lft g) : Nat) : Int)]⟩, ⟨4, 1, v, (List.length g), (bvals g)⟩]) := ⟨_, rfl⟩
  rw [← hR]
  refine GoS.enter (n := 17) Try.func10 (by kernel_rfl) rfl [(0, .pointer (some (⟨b, 0, none⟩)))] (by kernel_rfl) (by kernel_rfl) ?_
  have hM0 := Mem.start w
  refine GoS.run [0] [.n, .n, .n, .n, .n, .n, .n, .n, .n, .n, .n, .n, .n] _ [.code (csub (cd Try.f10) [1,1,0]), .code (csub (cd Try.f10) [1,1,1])] [(0, .pointer (some (⟨b, 0, none⟩)))] w (by kernel_rfl) .nil ?_
  obtain ⟨w1, hw2⟩ : ∃ w_, (w).drewN 1 = w_ := ⟨_, rfl⟩
  refine GoS.held (fun W_ => Mem [] w W_ []) [] 3 (by kernel_rfl) (by kernel_rfl) 13 (by kernel_rfl) ?_
  rw [hw2]
  have hM3 : Mem [] w w1 [] := hw2 ▸ hM0.ext (Kept.drewN _ _ 1)
  have hS4 : Mem [] w w1 [] := hM3.sub (List.Sublist.refl _)
  refine GoH.takeV 1 (.pointer (some (⟨b, 0, none⟩))) (.pointer (some (⟨b, 0, none⟩))) (some 6) (fun W_ => by kernel_rfl) rfl hS4 ?_
  refine GoH.takeV 2 (.pointer (some (⟨b, 0, none⟩))) (.pointer (some (⟨b, 0, none⟩))) (some 7) (fun W_ => by kernel_rfl) rfl hS4 ?_
  refine GoH.takeV 3 (.pointer (some (⟨b, 0, none⟩))) (.pointer (some (⟨b, 0, none⟩))) (some 8) (fun W_ => by kernel_rfl) rfl hS4 ?_
  refine GoH.takeF 4 (v) (fun W_ => (Instr.loadAt 47 (.pointer (some (⟨b, 0, none⟩)))).run Try.prog W_ = .ok (v) W_) (some 9) (fun W_ => by kernel_rfl) (fun W_ hW_ => c_load pE47 (k1.kept0 hW_.kept) (cel_obj b 0) rfl) hS4 ?_
  refine GoH.takeV 6 (.pointer (some (⟨b, 0, none⟩))) (.pointer (some (⟨b, 0, none⟩))) (some 11) (fun W_ => by kernel_rfl) rfl hS4 ?_
  refine GoH.takeV 7 (.pointer (some (⟨b, 0, none⟩))) (.pointer (some (⟨b, 0, none⟩))) (some 12) (fun W_ => by kernel_rfl) rfl hS4 ?_
  refine GoH.takeV 8 (.pointer (some (⟨b, 1, none⟩))) (.pointer (some (⟨b, 1, none⟩))) (some 13) (fun W_ => by kernel_rfl) rfl hS4 ?_
  refine GoH.takeF 9 (.int .i64 (((lft g) : Nat) : Int)) (fun W_ => (Instr.loadAt 3 (.pointer (some (⟨b, 1, none⟩)))).run Try.prog W_ = .ok (.int .i64 (((lft g) : Nat) : Int)) W_) (some 14) (fun W_ => by kernel_rfl) (fun W_ hW_ => c_load pE3 (k1.kept0 hW_.kept) (cel_obj b 1) rfl) hS4 ?_
  obtain ⟨v5, w6, hr7, hM8⟩ := m_lit sT47 hM3 (n := 0) (parts := #[]) (cs := []) (by decide) (by kernel_rfl) rfl
  have hS9 : Mem [] w w6 [] := hM8.sub (List.Sublist.cons _ (List.Sublist.refl _))
  refine GoH.stepF 0 (v5) (w6) ((Instr.buildSlice 47 0 #[]).run Try.prog w1 = .ok v5 w6) (some 5) (by kernel_rfl) (hr7) (.inr hS9) ?_
  obtain ⟨v10, w11, hr12, hM13⟩ := m_append sT47 hM8 0 rfl (k2.kept0 hM8.kept) (bvals_one g) (by omega) (by omega) 47
  have hM14 : Mem [] w w11 [⟨4, 1, v10, (List.length g), (bvals g)⟩] := hM13.cast (by simp [ivals, svals, bvals, nvals, u8s, Nat.add_assoc])
  have hS15 : Mem [] w w11 [] := hM14.sub (List.Sublist.cons _ (List.Sublist.refl _))
  refine GoH.stepF 5 (v10) (w11) ((Builtin.append_ #[47, 47] 47 #[v5, v]).run Try.prog w6 = .ok v10 w11) (some 10) (by kernel_rfl) (hr12) (.inr hS15) ?_
  have hS16 : Mem [] w w11 [] := hM14.sub (List.Sublist.cons _ (List.Sublist.refl _))
  refine GoH.stepF 10 (.agg #[v10, .int .i64 (((lft g) : Nat) : Int)]) (w11) ((Instr.build 49 #[(0, v10), (1, .int .i64 (((lft g) : Nat) : Int))]).run Try.prog w11 = .ok (.agg #[v10, .int .i64 (((lft g) : Nat) : Int)]) w11) (some 15) (by kernel_rfl) ((by obtain ⟨a0_, m0_, c0_, e0_⟩ : ∃ a m c, v10 = Value.slice a m c := rd_form (hM14.rd 0 rfl); rw [e0_]; kernel_rfl)) (.inr hS16) ?_
  obtain ⟨b17, w18, hr19, hM20⟩ := m_box (T := 49) (k := 2) (u := .agg #[v10, .int .i64 (((lft g) : Nat) : Int)]) rfl rfl hM14
  have hM21 : Mem [] w w18 [⟨49, 2, (obj b17), 1, [v10, .int .i64 (((lft g) : Nat) : Int)]⟩, ⟨4, 1, v10, (List.length g), (bvals g)⟩] := hM20
  have hS22 : Mem [] w w18 [] := hM21.sub (List.Sublist.cons _ (List.Sublist.cons _ (List.Sublist.refl _)))
  refine GoH.stepF 11 (.pointer (some (⟨b17, 0, none⟩))) (w18) ((Instr.box 49 (.agg #[v10, .int .i64 (((lft g) : Nat) : Int)])).run Try.prog w11 = .ok (.pointer (some (⟨b17, 0, none⟩))) w18) (some 16) (by kernel_rfl) (hr19) (.inr hS22) ?_
  refine GoH.takeV 12 (.pointer (some (⟨b17, 0, none⟩))) (.pointer (some (⟨b17, 0, none⟩))) (some 2) (fun W_ => by kernel_rfl) rfl hS22 ?_
  refine GoH.done [2] [(2, .pointer (some (⟨b17, 0, none⟩)))] (by kernel_rfl) (by kernel_rfl) ?_
  refine GoS.ret (fn := Try.f10) (v := (.pointer (some (⟨b17, 0, none⟩)))) Try.func10 (by kernel_rfl) ?_
  rw [hR]
  exact ⟨_, _, rfl, hM21⟩

set_option maxHeartbeats 400000 in
theorem copy_n (w : World) :
    Calls Try.prog 10 #[.pointer none] w (fun e w' => e = .returned (.pointer none) ∧ w = w') := by
  obtain ⟨R, hR⟩ : ∃ R : Ending → World → Prop, R = (fun e w' => e = .returned (.pointer none) ∧ w = w') := ⟨_, rfl⟩
  rw [← hR]
  refine GoS.enter (n := 17) Try.func10 (by kernel_rfl) rfl [(0, .pointer none)] (by kernel_rfl) (by kernel_rfl) ?_
  refine GoS.run [2] [.n, .n, .n, .n, .n, .n, .n, .n, .n, .n, .n, .n, .n, .n, .n] _ [.code (csub (cd Try.f10) [1,0,1,0,1]), .code (csub (cd Try.f10) [1,1])] [(2, .pointer none)] w (by kernel_rfl) .nil ?_
  refine GoS.ret (fn := Try.f10) (v := (.pointer none)) Try.func10 (by kernel_rfl) ?_
  rw [hR]
  exact ⟨rfl, rfl⟩


end Go.Proofs.Ytiifhlhmkpcaeaa
