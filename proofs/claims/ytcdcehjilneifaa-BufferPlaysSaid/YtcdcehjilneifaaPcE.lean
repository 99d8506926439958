/-
  The walks of the comparisons, the sorts.
-/
import Derived.Test.YtcdcehjilneifaaTokD
import Derived.Test.YtcdcehjilneifaaPcP
import Derived.Test.YtcdcehjilneifaaCell
import Derived.Test.YtcdcehjilneifaaHeld
import Derived.Test.YtcdcehjilneifaaMap
import Derived.Test.YtcdcehjilneifaaCmp
import Derived.Test.YtcdcehjilneifaaSortD
import Derived.Test.YtcdcehjilneifaaSrtA
namespace Go.Proofs.Ytcdcehjilneifaa
open Go Go.Gw Go.UtfP Go.TokP Go.PcP Go.RowKit
set_option linter.unusedVariables false
set_option linter.unusedSimpArgs false
set_option maxRecDepth 20000


abbrev uA0 : List Nat := [1,1,0,1,0,0]
abbrev uA1 : List Nat := [1,0,1,0,0]
abbrev uA2 : List Nat := [1,1,1]
abbrev uA3 : List Nat := [1,1,0,1,0,0,1,1,1]
abbrev uA4 : List Nat := [1,0,1,0,0,1,1]
abbrev uA5 : List Nat := [1,1,0,1,0,0,1,1,0,0,1,1,1]
abbrev uA6 : List Nat := [1,0,1,0,0,1,0,0,1,1]
abbrev uA7 : List Nat := [1,1,0,1,0,0,1,1,0,0,1,1,0]
abbrev uA8 : List Nat := [1,0,1,0,0,1,0,0,1,0]
abbrev uA9 : List Nat := [1,1,0,1,0,0,1,1]
abbrev uA10 : List Nat := [1,1,0,1,0,0,1,1,0,0,1,1,1,0]
abbrev uA11 : List Nat := [1,1,0,1,0,0,1,1,0,0,1,1,1,1]
abbrev uA12 : List Nat := [1,1,0,1,0,0,1,1,0,0,1,1,1,0,1]
abbrev uA13 : List Nat := [1,0,1,0,0,1,0,0,1,1,0]
abbrev uA14 : List Nat := [1,0,1,0,0,1,0,0,1,1,1]
abbrev uA15 : List Nat := [1,0,1,0,0,1,0,0,1,1,0,1]
set_option maxHeartbeats 400000 in
theorem name_c_L (s : List UInt8) (hn : 1 ≤ s.length ∧ s.length ≤ 16) (w : World) (R : Ending → World → Prop) (hR : R = (fun e w' => e = .returned (.bool (nameP s)) ∧ w = w')) : ∀ (N : Nat) (i : Nat) (hi : i ≤ s.length) (hz : ∀ j, j < i → okI (bl s j)) (hN : s.length - i < N), GoS Try.prog 27 R 39 [iC Try.f27 uA0, iL Try.f27 uA0, .inBlock 0, iC Try.f27 uA2] [(0, sS s), (13, iN (List.length s)), (14, iN i)] w := by
 intro N
 induction N with
 | zero => intro i hi hz hN; exact absurd hN (Nat.not_lt_zero _)
 | succ N ih =>
  intro i hi hz hN
  have hb := bl_bd s i
  refine GoS.run [0, 13, 14, 15] [.n, .n, .n, .n, .n] _ [iC Try.f27 [1,1,0,1,0,0,1,0], iC Try.f27 uA9, iL Try.f27 uA0, .inBlock 0, iC Try.f27 uA2] [(0, sS s), (13, iN (List.length s)), (14, iN i), (15, .bool (decide (((i : Nat) : Int) < (((List.length s) : Nat) : Int))))] w (by kernel_rfl) .nil ?_
  refine GoS.cond (decide (((i : Nat) : Int) < (((List.length s) : Nat) : Int))) [iC Try.f27 [1,1,0,1,0,0,1,0,0], iC Try.f27 uA9, iL Try.f27 uA0, .inBlock 0, iC Try.f27 uA2] [iC Try.f27 [1,1,0,1,0,0,1,0,1], iC Try.f27 uA9, iL Try.f27 uA0, .inBlock 0, iC Try.f27 uA2] (by kernel_rfl) (fun h1 => ?_) (fun h1 => ?_)
  ·
   have h1p : ((i : Nat) : Int) < (((List.length s) : Nat) : Int) := of_decide_eq_true h1
   refine GoS.run [0, 13, 14] [.n] _ [iC Try.f27 uA9, iL Try.f27 uA0, .inBlock 0, iC Try.f27 uA2] [(0, sS s), (13, iN (List.length s)), (14, iN i)] w (by kernel_rfl) .nil ?_
   have hb2 := bl_bd s i
   have o3 : (Instr.index 9 (sS s) (iN i)).run Try.prog w = .ok (.int .u8 (bl s i)) w := f_index i (by kernel_rfl) (by omega) (by omega)
   refine GoS.run [0, 4, 13, 14, 22] [.n, .n, .n, .n, .n, .n, .n, .n, .n, .n, .n, .h (.int .u8 (bl s i)), .n, .n, .n, .n, .n, .n, .n] _ [.inRegion (cops (csub (cd Try.f27) uA7)) [3,4,5,6,7,8,9,10,11,12,13,14,15,16,17], iC Try.f27 uA5, .inBlock 1, iC Try.f27 uA3, iL Try.f27 uA0, .inBlock 0, iC Try.f27 uA2] [(0, sS s), (4, .int .u8 (bl s i)), (13, iN (List.length s)), (14, iN i), (22, .bool (decide ((bl s i) < 97)))] w (by kernel_rfl) (.cons o3 .nil) ?_
   refine GoS.fork 22 (decide ((bl s i) < 97)) (by kernel_rfl) (fun h4 => ?_) (fun h4 => ?_)
   ·
    have h4p : (bl s i) < 97 := of_decide_eq_true h4
    refine GoS.run [0, 4, 13, 14, 26, 29] [.n, .n, .n, .n, .n, .n, .n] _ [.inRegion (cops (csub (cd Try.f27) uA7)) [10,11,12,13,14,15,16,17], iC Try.f27 uA5, .inBlock 1, iC Try.f27 uA3, iL Try.f27 uA0, .inBlock 0, iC Try.f27 uA2] [(0, sS s), (4, .int .u8 (bl s i)), (13, iN (List.length s)), (14, iN i), (26, .bool true), (29, .bool (decide ((bl s i) < 48)))] w (by kernel_rfl) .nil ?_
    refine GoS.fork 29 (decide ((bl s i) < 48)) (by kernel_rfl) (fun h5 => ?_) (fun h5 => ?_)
    ·
     have h5p : (bl s i) < 48 := of_decide_eq_true h5
     refine GoS.run [0, 13, 14, 37] [.n, .n, .n, .n, .n, .n, .n, .n] _ [.inRegion (cops (csub (cd Try.f27) uA7)) [], iC Try.f27 uA5, .inBlock 1, iC Try.f27 uA3, iL Try.f27 uA0, .inBlock 0, iC Try.f27 uA2] [(0, sS s), (13, iN (List.length s)), (14, iN i), (37, .bool ((bl s i) != 95))] w (by kernel_rfl) .nil ?_
     refine GoS.run [0, 13, 14, 37] [.n] _ [iC Try.f27 uA5, .inBlock 1, iC Try.f27 uA3, iL Try.f27 uA0, .inBlock 0, iC Try.f27 uA2] [(0, sS s), (13, iN (List.length s)), (14, iN i), (37, .bool ((bl s i) != 95))] w (by kernel_rfl) .nil ?_
     refine GoS.cond ((bl s i) != 95) [iC Try.f27 uA10, .inBlock 1, iC Try.f27 uA3, iL Try.f27 uA0, .inBlock 0, iC Try.f27 uA2] [iC Try.f27 uA11, .inBlock 1, iC Try.f27 uA3, iL Try.f27 uA0, .inBlock 0, iC Try.f27 uA2] (by kernel_rfl) (fun h10 => ?_) (fun h10 => ?_)
     ·
      have h10p : ¬ ((bl s i) = 95) := bne_iff_ne.1 h10
      refine GoS.run [2] [.n, .n, .n, .n] _ [iC Try.f27 uA12, .inBlock 1, iC Try.f27 uA3, iL Try.f27 uA0, .inBlock 0, iC Try.f27 uA2] [(2, .bool false)] w (by kernel_rfl) .nil ?_
      refine GoS.ret (fn := Try.f27) (v := (.bool false)) Try.func27 (by kernel_rfl) ?_
      rw [hR]
      exact ⟨ret_bool (name_no (j := i) (by omega) (by unfold okI; omega)).symm, rfl⟩
     ·
      have h10p : (bl s i) = 95 := p_eq h10
      refine GoS.run [0, 13, 14] [.n] _ [.inBlock 1, iC Try.f27 uA3, iL Try.f27 uA0, .inBlock 0, iC Try.f27 uA2] [(0, sS s), (13, iN (List.length s)), (14, iN i)] w (by kernel_rfl) .nil ?_
      have o11 : (binOp .add 3 (iN i) (.int .i64 1)).run Try.prog w = .ok (iN (i + 1)) w := f_add (by rw [show ((i : Nat) : Int) + 1 = (((i + 1) : Nat) : Int) by omega]; exact IntWalk.i64_in _ (by omega))
      refine GoS.run [0, 13, 14] [.n, .n, .h (iN (i + 1)), .n, .n, .n] _ [iC Try.f27 uA0, iL Try.f27 uA0, .inBlock 0, iC Try.f27 uA2] [(0, sS s), (13, iN (List.length s)), (14, iN (i + 1))] w (by kernel_rfl) (.cons o11 .nil) ?_
      exact ih (i + 1) (by omega) (fun j hj => by rcases Nat.lt_succ_iff_lt_or_eq.1 hj with g | g; exact hz j g; subst g; unfold okI; omega) (by omega)
    ·
     have h5p : ¬ ((bl s i) < 48) := of_decide_eq_false h5
     refine GoS.run [0, 4, 13, 14, 34] [.n, .n, .n, .n, .n] _ [.inRegion (cops (csub (cd Try.f27) uA7)) [15,16,17], iC Try.f27 uA5, .inBlock 1, iC Try.f27 uA3, iL Try.f27 uA0, .inBlock 0, iC Try.f27 uA2] [(0, sS s), (4, .int .u8 (bl s i)), (13, iN (List.length s)), (14, iN i), (34, .bool (decide ((bl s i) > 57)))] w (by kernel_rfl) .nil ?_
     refine GoS.fork 34 (decide ((bl s i) > 57)) (by kernel_rfl) (fun h6 => ?_) (fun h6 => ?_)
     ·
      have h6p : (bl s i) > 57 := of_decide_eq_true h6
      refine GoS.run [0, 13, 14, 37] [.n, .n, .n] _ [.inRegion (cops (csub (cd Try.f27) uA7)) [], iC Try.f27 uA5, .inBlock 1, iC Try.f27 uA3, iL Try.f27 uA0, .inBlock 0, iC Try.f27 uA2] [(0, sS s), (13, iN (List.length s)), (14, iN i), (37, .bool ((bl s i) != 95))] w (by kernel_rfl) .nil ?_
      refine GoS.run [0, 13, 14, 37] [.n] _ [iC Try.f27 uA5, .inBlock 1, iC Try.f27 uA3, iL Try.f27 uA0, .inBlock 0, iC Try.f27 uA2] [(0, sS s), (13, iN (List.length s)), (14, iN i), (37, .bool ((bl s i) != 95))] w (by kernel_rfl) .nil ?_
      refine GoS.cond ((bl s i) != 95) [iC Try.f27 uA10, .inBlock 1, iC Try.f27 uA3, iL Try.f27 uA0, .inBlock 0, iC Try.f27 uA2] [iC Try.f27 uA11, .inBlock 1, iC Try.f27 uA3, iL Try.f27 uA0, .inBlock 0, iC Try.f27 uA2] (by kernel_rfl) (fun h12 => ?_) (fun h12 => ?_)
      ·
       have h12p : ¬ ((bl s i) = 95) := bne_iff_ne.1 h12
       refine GoS.run [2] [.n, .n, .n, .n] _ [iC Try.f27 uA12, .inBlock 1, iC Try.f27 uA3, iL Try.f27 uA0, .inBlock 0, iC Try.f27 uA2] [(2, .bool false)] w (by kernel_rfl) .nil ?_
       refine GoS.ret (fn := Try.f27) (v := (.bool false)) Try.func27 (by kernel_rfl) ?_
       rw [hR]
       exact ⟨ret_bool (name_no (j := i) (by omega) (by unfold okI; omega)).symm, rfl⟩
      ·
       have h12p : (bl s i) = 95 := p_eq h12
       refine GoS.run [0, 13, 14] [.n] _ [.inBlock 1, iC Try.f27 uA3, iL Try.f27 uA0, .inBlock 0, iC Try.f27 uA2] [(0, sS s), (13, iN (List.length s)), (14, iN i)] w (by kernel_rfl) .nil ?_
       have o13 : (binOp .add 3 (iN i) (.int .i64 1)).run Try.prog w = .ok (iN (i + 1)) w := f_add (by rw [show ((i : Nat) : Int) + 1 = (((i + 1) : Nat) : Int) by omega]; exact IntWalk.i64_in _ (by omega))
       refine GoS.run [0, 13, 14] [.n, .n, .h (iN (i + 1)), .n, .n, .n] _ [iC Try.f27 uA0, iL Try.f27 uA0, .inBlock 0, iC Try.f27 uA2] [(0, sS s), (13, iN (List.length s)), (14, iN (i + 1))] w (by kernel_rfl) (.cons o13 .nil) ?_
       exact ih (i + 1) (by omega) (fun j hj => by rcases Nat.lt_succ_iff_lt_or_eq.1 hj with g | g; exact hz j g; subst g; unfold okI; omega) (by omega)
     ·
      have h6p : ¬ ((bl s i) > 57) := of_decide_eq_false h6
      refine GoS.run [0, 13, 14, 37] [.n, .n, .n] _ [.inRegion (cops (csub (cd Try.f27) uA7)) [], iC Try.f27 uA5, .inBlock 1, iC Try.f27 uA3, iL Try.f27 uA0, .inBlock 0, iC Try.f27 uA2] [(0, sS s), (13, iN (List.length s)), (14, iN i), (37, .bool false)] w (by kernel_rfl) .nil ?_
      have o14 : (binOp .add 3 (iN i) (.int .i64 1)).run Try.prog w = .ok (iN (i + 1)) w := f_add (by rw [show ((i : Nat) : Int) + 1 = (((i + 1) : Nat) : Int) by omega]; exact IntWalk.i64_in _ (by omega))
      refine GoS.run [0, 13, 14] [.n, .n, .n, .n, .n, .h (iN (i + 1)), .n, .n, .n] _ [iC Try.f27 uA0, iL Try.f27 uA0, .inBlock 0, iC Try.f27 uA2] [(0, sS s), (13, iN (List.length s)), (14, iN (i + 1))] w (by kernel_rfl) (.cons o14 .nil) ?_
      exact ih (i + 1) (by omega) (fun j hj => by rcases Nat.lt_succ_iff_lt_or_eq.1 hj with g | g; exact hz j g; subst g; unfold okI; omega) (by omega)
   ·
    have h4p : ¬ ((bl s i) < 97) := of_decide_eq_false h4
    refine GoS.run [0, 4, 13, 14, 26] [.n, .n, .n, .n] _ [.inRegion (cops (csub (cd Try.f27) uA7)) [7,8,9,10,11,12,13,14,15,16,17], iC Try.f27 uA5, .inBlock 1, iC Try.f27 uA3, iL Try.f27 uA0, .inBlock 0, iC Try.f27 uA2] [(0, sS s), (4, .int .u8 (bl s i)), (13, iN (List.length s)), (14, iN i), (26, .bool (decide ((bl s i) > 122)))] w (by kernel_rfl) .nil ?_
    refine GoS.fork 26 (decide ((bl s i) > 122)) (by kernel_rfl) (fun h7 => ?_) (fun h7 => ?_)
    ·
     have h7p : (bl s i) > 122 := of_decide_eq_true h7
     refine GoS.run [0, 4, 13, 14, 26, 29] [.n, .n, .n] _ [.inRegion (cops (csub (cd Try.f27) uA7)) [10,11,12,13,14,15,16,17], iC Try.f27 uA5, .inBlock 1, iC Try.f27 uA3, iL Try.f27 uA0, .inBlock 0, iC Try.f27 uA2] [(0, sS s), (4, .int .u8 (bl s i)), (13, iN (List.length s)), (14, iN i), (26, .bool true), (29, .bool (decide ((bl s i) < 48)))] w (by kernel_rfl) .nil ?_
     refine GoS.fork 29 (decide ((bl s i) < 48)) (by kernel_rfl) (fun h8 => ?_) (fun h8 => ?_)
     ·
      have h8p : (bl s i) < 48 := of_decide_eq_true h8
      refine GoS.run [0, 13, 14, 37] [.n, .n, .n, .n, .n, .n, .n, .n] _ [.inRegion (cops (csub (cd Try.f27) uA7)) [], iC Try.f27 uA5, .inBlock 1, iC Try.f27 uA3, iL Try.f27 uA0, .inBlock 0, iC Try.f27 uA2] [(0, sS s), (13, iN (List.length s)), (14, iN i), (37, .bool ((bl s i) != 95))] w (by kernel_rfl) .nil ?_
      refine GoS.run [0, 13, 14, 37] [.n] _ [iC Try.f27 uA5, .inBlock 1, iC Try.f27 uA3, iL Try.f27 uA0, .inBlock 0, iC Try.f27 uA2] [(0, sS s), (13, iN (List.length s)), (14, iN i), (37, .bool ((bl s i) != 95))] w (by kernel_rfl) .nil ?_
      refine GoS.cond ((bl s i) != 95) [iC Try.f27 uA10, .inBlock 1, iC Try.f27 uA3, iL Try.f27 uA0, .inBlock 0, iC Try.f27 uA2] [iC Try.f27 uA11, .inBlock 1, iC Try.f27 uA3, iL Try.f27 uA0, .inBlock 0, iC Try.f27 uA2] (by kernel_rfl) (fun h15 => ?_) (fun h15 => ?_)
      ·
       have h15p : ¬ ((bl s i) = 95) := bne_iff_ne.1 h15
       refine GoS.run [2] [.n, .n, .n, .n] _ [iC Try.f27 uA12, .inBlock 1, iC Try.f27 uA3, iL Try.f27 uA0, .inBlock 0, iC Try.f27 uA2] [(2, .bool false)] w (by kernel_rfl) .nil ?_
       refine GoS.ret (fn := Try.f27) (v := (.bool false)) Try.func27 (by kernel_rfl) ?_
       rw [hR]
       exact ⟨ret_bool (name_no (j := i) (by omega) (by unfold okI; omega)).symm, rfl⟩
      ·
       have h15p : (bl s i) = 95 := p_eq h15
       refine GoS.run [0, 13, 14] [.n] _ [.inBlock 1, iC Try.f27 uA3, iL Try.f27 uA0, .inBlock 0, iC Try.f27 uA2] [(0, sS s), (13, iN (List.length s)), (14, iN i)] w (by kernel_rfl) .nil ?_
       have o16 : (binOp .add 3 (iN i) (.int .i64 1)).run Try.prog w = .ok (iN (i + 1)) w := f_add (by rw [show ((i : Nat) : Int) + 1 = (((i + 1) : Nat) : Int) by omega]; exact IntWalk.i64_in _ (by omega))
       refine GoS.run [0, 13, 14] [.n, .n, .h (iN (i + 1)), .n, .n, .n] _ [iC Try.f27 uA0, iL Try.f27 uA0, .inBlock 0, iC Try.f27 uA2] [(0, sS s), (13, iN (List.length s)), (14, iN (i + 1))] w (by kernel_rfl) (.cons o16 .nil) ?_
       exact ih (i + 1) (by omega) (fun j hj => by rcases Nat.lt_succ_iff_lt_or_eq.1 hj with g | g; exact hz j g; subst g; unfold okI; omega) (by omega)
     ·
      have h8p : ¬ ((bl s i) < 48) := of_decide_eq_false h8
      refine GoS.run [0, 4, 13, 14, 34] [.n, .n, .n, .n, .n] _ [.inRegion (cops (csub (cd Try.f27) uA7)) [15,16,17], iC Try.f27 uA5, .inBlock 1, iC Try.f27 uA3, iL Try.f27 uA0, .inBlock 0, iC Try.f27 uA2] [(0, sS s), (4, .int .u8 (bl s i)), (13, iN (List.length s)), (14, iN i), (34, .bool (decide ((bl s i) > 57)))] w (by kernel_rfl) .nil ?_
      refine GoS.fork 34 (decide ((bl s i) > 57)) (by kernel_rfl) (fun h9 => ?_) (fun h9 => ?_)
      ·
       have h9p : (bl s i) > 57 := of_decide_eq_true h9
       refine GoS.run [0, 13, 14, 37] [.n, .n, .n] _ [.inRegion (cops (csub (cd Try.f27) uA7)) [], iC Try.f27 uA5, .inBlock 1, iC Try.f27 uA3, iL Try.f27 uA0, .inBlock 0, iC Try.f27 uA2] [(0, sS s), (13, iN (List.length s)), (14, iN i), (37, .bool ((bl s i) != 95))] w (by kernel_rfl) .nil ?_
       refine GoS.run [0, 13, 14, 37] [.n] _ [iC Try.f27 uA5, .inBlock 1, iC Try.f27 uA3, iL Try.f27 uA0, .inBlock 0, iC Try.f27 uA2] [(0, sS s), (13, iN (List.length s)), (14, iN i), (37, .bool ((bl s i) != 95))] w (by kernel_rfl) .nil ?_
       refine GoS.cond ((bl s i) != 95) [iC Try.f27 uA10, .inBlock 1, iC Try.f27 uA3, iL Try.f27 uA0, .inBlock 0, iC Try.f27 uA2] [iC Try.f27 uA11, .inBlock 1, iC Try.f27 uA3, iL Try.f27 uA0, .inBlock 0, iC Try.f27 uA2] (by kernel_rfl) (fun h17 => ?_) (fun h17 => ?_)
       ·
        have h17p : ¬ ((bl s i) = 95) := bne_iff_ne.1 h17
        refine GoS.run [2] [.n, .n, .n, .n] _ [iC Try.f27 uA12, .inBlock 1, iC Try.f27 uA3, iL Try.f27 uA0, .inBlock 0, iC Try.f27 uA2] [(2, .bool false)] w (by kernel_rfl) .nil ?_
        refine GoS.ret (fn := Try.f27) (v := (.bool false)) Try.func27 (by kernel_rfl) ?_
        rw [hR]
        exact ⟨ret_bool (name_no (j := i) (by omega) (by unfold okI; omega)).symm, rfl⟩
       ·
        have h17p : (bl s i) = 95 := p_eq h17
        refine GoS.run [0, 13, 14] [.n] _ [.inBlock 1, iC Try.f27 uA3, iL Try.f27 uA0, .inBlock 0, iC Try.f27 uA2] [(0, sS s), (13, iN (List.length s)), (14, iN i)] w (by kernel_rfl) .nil ?_
        have o18 : (binOp .add 3 (iN i) (.int .i64 1)).run Try.prog w = .ok (iN (i + 1)) w := f_add (by rw [show ((i : Nat) : Int) + 1 = (((i + 1) : Nat) : Int) by omega]; exact IntWalk.i64_in _ (by omega))
        refine GoS.run [0, 13, 14] [.n, .n, .h (iN (i + 1)), .n, .n, .n] _ [iC Try.f27 uA0, iL Try.f27 uA0, .inBlock 0, iC Try.f27 uA2] [(0, sS s), (13, iN (List.length s)), (14, iN (i + 1))] w (by kernel_rfl) (.cons o18 .nil) ?_
        exact ih (i + 1) (by omega) (fun j hj => by rcases Nat.lt_succ_iff_lt_or_eq.1 hj with g | g; exact hz j g; subst g; unfold okI; omega) (by omega)
      ·
       have h9p : ¬ ((bl s i) > 57) := of_decide_eq_false h9
       refine GoS.run [0, 13, 14, 37] [.n, .n, .n] _ [.inRegion (cops (csub (cd Try.f27) uA7)) [], iC Try.f27 uA5, .inBlock 1, iC Try.f27 uA3, iL Try.f27 uA0, .inBlock 0, iC Try.f27 uA2] [(0, sS s), (13, iN (List.length s)), (14, iN i), (37, .bool false)] w (by kernel_rfl) .nil ?_
       have o19 : (binOp .add 3 (iN i) (.int .i64 1)).run Try.prog w = .ok (iN (i + 1)) w := f_add (by rw [show ((i : Nat) : Int) + 1 = (((i + 1) : Nat) : Int) by omega]; exact IntWalk.i64_in _ (by omega))
       refine GoS.run [0, 13, 14] [.n, .n, .n, .n, .n, .h (iN (i + 1)), .n, .n, .n] _ [iC Try.f27 uA0, iL Try.f27 uA0, .inBlock 0, iC Try.f27 uA2] [(0, sS s), (13, iN (List.length s)), (14, iN (i + 1))] w (by kernel_rfl) (.cons o19 .nil) ?_
       exact ih (i + 1) (by omega) (fun j hj => by rcases Nat.lt_succ_iff_lt_or_eq.1 hj with g | g; exact hz j g; subst g; unfold okI; omega) (by omega)
    ·
     have h7p : ¬ ((bl s i) > 122) := of_decide_eq_false h7
     refine GoS.run [0, 13, 14, 37] [.n, .n, .n, .n, .n, .n, .n, .n, .n, .n, .n] _ [.inRegion (cops (csub (cd Try.f27) uA7)) [], iC Try.f27 uA5, .inBlock 1, iC Try.f27 uA3, iL Try.f27 uA0, .inBlock 0, iC Try.f27 uA2] [(0, sS s), (13, iN (List.length s)), (14, iN i), (37, .bool false)] w (by kernel_rfl) .nil ?_
     have o20 : (binOp .add 3 (iN i) (.int .i64 1)).run Try.prog w = .ok (iN (i + 1)) w := f_add (by rw [show ((i : Nat) : Int) + 1 = (((i + 1) : Nat) : Int) by omega]; exact IntWalk.i64_in _ (by omega))
     refine GoS.run [0, 13, 14] [.n, .n, .n, .n, .n, .h (iN (i + 1)), .n, .n, .n] _ [iC Try.f27 uA0, iL Try.f27 uA0, .inBlock 0, iC Try.f27 uA2] [(0, sS s), (13, iN (List.length s)), (14, iN (i + 1))] w (by kernel_rfl) (.cons o20 .nil) ?_
     exact ih (i + 1) (by omega) (fun j hj => by rcases Nat.lt_succ_iff_lt_or_eq.1 hj with g | g; exact hz j g; subst g; unfold okI; omega) (by omega)
  ·
   have h1p : ¬ (((i : Nat) : Int) < (((List.length s) : Nat) : Int)) := of_decide_eq_false h1
   refine GoS.run [2] [.n, .n, .n, .n, .n] _ [iC Try.f27 [1,1,1,1]] [(2, .bool true)] w (by kernel_rfl) .nil ?_
   refine GoS.ret (fn := Try.f27) (v := (.bool true)) Try.func27 (by kernel_rfl) ?_
   rw [hR]
   exact ⟨ret_bool (name_yes (by omega) (fun j hj => hz j (by omega))).symm, rfl⟩

set_option maxHeartbeats 400000 in
theorem name_c (s : List UInt8) (w : World) :
  Calls Try.prog 27 #[sS s] w (fun e w' => e = .returned (.bool (nameP s)) ∧ w = w') := by
 obtain ⟨R, hR⟩ : ∃ R : Ending → World → Prop, R = (fun e w' => e = .returned (.bool (nameP s)) ∧ w = w') := ⟨_, rfl⟩
 rw [← hR]
 refine GoS.enter (n := 39) Try.func27 (by kernel_rfl) rfl [(0, sS s)] (by kernel_rfl) (by kernel_rfl) ?_
 have o1 : (binOp .eql 9 (sS s) (sS ([]))).run Try.prog w = .ok (.bool (decide (s = []))) w := f_streq
 refine GoS.run [0, 7] [.n, .n, .n, .n, .n, .n, .n, .n, .h (.bool (decide (s = []))), .n] _ [.inRegion (cops (csub (cd Try.f27) [1,0,0])) [3,4,5,6], iC Try.f27 [1,0,1], iC Try.f27 [1,1]] [(0, sS s), (7, .bool (decide (s = [])))] w (by kernel_rfl) (.cons o1 .nil) ?_
 refine GoS.fork 7 (decide (s = [])) (by kernel_rfl) (fun h2 => ?_) (fun h2 => ?_)
 ·
  have h2p : s = [] := of_decide_eq_true h2
  refine GoS.run [0, 11] [.n, .n, .n, .n] _ [.inRegion (cops (csub (cd Try.f27) [1,0,0])) [], iC Try.f27 [1,0,1], iC Try.f27 [1,1]] [(0, sS s), (11, .bool true)] w (by kernel_rfl) .nil ?_
  refine GoS.run [2] [.n, .n, .n, .n, .n, .n] _ [iC Try.f27 [1,0,1,0,1], iC Try.f27 [1,1]] [(2, .bool false)] w (by kernel_rfl) .nil ?_
  refine GoS.ret (fn := Try.f27) (v := (.bool false)) Try.func27 (by kernel_rfl) ?_
  rw [hR]
  exact ⟨ret_bool (name_len (by first | omega | (rw [h2p]; decide))).symm, rfl⟩
 ·
  have h2p : ¬ (s = []) := of_decide_eq_false h2
  have o3 : (Builtin.len_ #[9] 3 #[sS s]).run Try.prog w = .ok (iN s.length) w := f_len (by kernel_rfl)
  refine GoS.run [0, 11] [.n, .h (iN s.length), .n, .n] _ [.inRegion (cops (csub (cd Try.f27) [1,0,0])) [], iC Try.f27 [1,0,1], iC Try.f27 [1,1]] [(0, sS s), (11, .bool (decide (((s.length : Nat) : Int) > 16)))] w (by kernel_rfl) (.cons o3 .nil) ?_
  refine GoS.run [0, 11] [.n] _ [iC Try.f27 [1,0,1], iC Try.f27 [1,1]] [(0, sS s), (11, .bool (decide (((s.length : Nat) : Int) > 16)))] w (by kernel_rfl) .nil ?_
  refine GoS.cond (decide (((s.length : Nat) : Int) > 16)) [iC Try.f27 [1,0,1,0], iC Try.f27 [1,1]] [iC Try.f27 [1,0,1,1], iC Try.f27 [1,1]] (by kernel_rfl) (fun h4 => ?_) (fun h4 => ?_)
  ·
   have h4p : ((s.length : Nat) : Int) > 16 := of_decide_eq_true h4
   refine GoS.run [2] [.n, .n, .n, .n] _ [iC Try.f27 [1,0,1,0,1], iC Try.f27 [1,1]] [(2, .bool false)] w (by kernel_rfl) .nil ?_
   refine GoS.ret (fn := Try.f27) (v := (.bool false)) Try.func27 (by kernel_rfl) ?_
   rw [hR]
   exact ⟨ret_bool (name_len (by first | omega | (rw [h2p]; decide))).symm, rfl⟩
  ·
   have h4p : ¬ (((s.length : Nat) : Int) > 16) := of_decide_eq_false h4
   refine GoS.run [0] [.n] _ [iC Try.f27 [1,1]] [(0, sS s)] w (by kernel_rfl) .nil ?_
   have o5 : (Builtin.len_ #[9] 3 #[sS s]).run Try.prog w = .ok (iN s.length) w := f_len (by kernel_rfl)
   refine GoS.run [0, 13, 14] [.n, .n, .n, .n, .h (iN s.length), .n, .n, .n, .n] _ [iC Try.f27 uA0, iL Try.f27 uA0, .inBlock 0, iC Try.f27 uA2] [(0, sS s), (13, iN s.length), (14, .int .i64 0)] w (by kernel_rfl) (.cons o5 .nil) ?_
   exact name_c_L s ⟨Nat.pos_of_ne_zero (fun z => h2p (List.eq_nil_of_length_eq_zero z)), by omega⟩ w R hR (s.length + 1) 0 (Nat.zero_le _) (fun j hj => absurd hj (Nat.not_lt_zero _)) (by omega)

set_option maxHeartbeats 400000 in
theorem rname_c_L (s : List UInt8) (hs : s.length ≤ 9223372036854775807) (w : World) (R : Ending → World → Prop) (hR : R = (fun e w' => e = .returned (.bool (nameP s)) ∧ w = w')) : ∀ (N : Nat) (i : Nat) (hi : i ≤ s.length) (hz : ∀ j, j < i → okI (bl s j)) (hN : s.length - i < N), GoS Try.prog 34 R 41 [iC Try.f34 uA1, iL Try.f34 uA1, .inBlock 0, iC Try.f34 [1,1]] [(0, sS s), (3, iN i)] w := by
 intro N
 induction N with
 | zero => intro i hi hz hN; exact absurd hN (Nat.not_lt_zero _)
 | succ N ih =>
  intro i hi hz hN
  have hb := bl_bd s i
  have o1 : (Builtin.len_ #[9] 3 #[sS s]).run Try.prog w = .ok (iN s.length) w := f_len (by kernel_rfl)
  refine GoS.run [0, 3, 8] [.n, .n, .n, .n, .n, .h (iN s.length), .n, .n] _ [iC Try.f34 [1,0,1,0,0,0,1], iC Try.f34 [1,0,1,0,0,1], iL Try.f34 uA1, .inBlock 0, iC Try.f34 [1,1]] [(0, sS s), (3, iN i), (8, .bool (decide (((i : Nat) : Int) < ((s.length : Nat) : Int))))] w (by kernel_rfl) (.cons o1 .nil) ?_
  refine GoS.cond (decide (((i : Nat) : Int) < ((s.length : Nat) : Int))) [iC Try.f34 [1,0,1,0,0,0,1,0], iC Try.f34 [1,0,1,0,0,1], iL Try.f34 uA1, .inBlock 0, iC Try.f34 [1,1]] [iC Try.f34 [1,0,1,0,0,0,1,1], iC Try.f34 [1,0,1,0,0,1], iL Try.f34 uA1, .inBlock 0, iC Try.f34 [1,1]] (by kernel_rfl) (fun h2 => ?_) (fun h2 => ?_)
  ·
   have h2p : ((i : Nat) : Int) < ((s.length : Nat) : Int) := of_decide_eq_true h2
   refine GoS.run [0, 3] [.n] _ [iC Try.f34 [1,0,1,0,0,1], iL Try.f34 uA1, .inBlock 0, iC Try.f34 [1,1]] [(0, sS s), (3, iN i)] w (by kernel_rfl) .nil ?_
   have hb6 := bl_bd s i
   have o7 : (Instr.index 9 (sS s) (iN i)).run Try.prog w = .ok (.int .u8 (bl s i)) w := f_index i (by kernel_rfl) (by omega) (by omega)
   refine GoS.run [0, 3, 4, 16] [.n, .n, .n, .n, .n, .n, .h (.int .u8 (bl s i)), .n, .n, .n, .n, .n, .n, .n] _ [.inRegion (cops (csub (cd Try.f34) uA8)) [3,4,5,6,7,8,9,10,11,12,13,14,15,16,17,18], iC Try.f34 uA6, .inBlock 1, iC Try.f34 uA4, iL Try.f34 uA1, .inBlock 0, iC Try.f34 [1,1]] [(0, sS s), (3, iN i), (4, .int .u8 (bl s i)), (16, .bool (decide ((bl s i) ≥ 97)))] w (by kernel_rfl) (.cons o7 .nil) ?_
   refine GoS.fork 16 (decide ((bl s i) ≥ 97)) (by kernel_rfl) (fun h8 => ?_) (fun h8 => ?_)
   ·
    have h8p : (bl s i) ≥ 97 := of_decide_eq_true h8
    refine GoS.run [0, 3, 4, 20] [.n, .n, .n, .n] _ [.inRegion (cops (csub (cd Try.f34) uA8)) [7,8,9,10,11,12,13,14,15,16,17,18], iC Try.f34 uA6, .inBlock 1, iC Try.f34 uA4, iL Try.f34 uA1, .inBlock 0, iC Try.f34 [1,1]] [(0, sS s), (3, iN i), (4, .int .u8 (bl s i)), (20, .bool (decide ((bl s i) ≤ 122)))] w (by kernel_rfl) .nil ?_
    refine GoS.fork 20 (decide ((bl s i) ≤ 122)) (by kernel_rfl) (fun h9 => ?_) (fun h9 => ?_)
    ·
     have h9p : (bl s i) ≤ 122 := of_decide_eq_true h9
     refine GoS.run [0, 3, 32] [.n, .n, .n, .n, .n, .n, .n, .n, .n, .n, .n, .n] _ [.inRegion (cops (csub (cd Try.f34) uA8)) [], iC Try.f34 uA6, .inBlock 1, iC Try.f34 uA4, iL Try.f34 uA1, .inBlock 0, iC Try.f34 [1,1]] [(0, sS s), (3, iN i), (32, .bool false)] w (by kernel_rfl) .nil ?_
     have o14 : (binOp .add 3 (iN i) (.int .i64 1)).run Try.prog w = .ok (iN (i + 1)) w := f_add (by rw [show ((i : Nat) : Int) + 1 = (((i + 1) : Nat) : Int) by omega]; exact IntWalk.i64_in _ (by omega))
     refine GoS.run [0, 3] [.n, .n, .n, .n, .n, .n, .h (iN (i + 1)), .n, .n, .n] _ [iC Try.f34 uA1, iL Try.f34 uA1, .inBlock 0, iC Try.f34 [1,1]] [(0, sS s), (3, iN (i + 1))] w (by kernel_rfl) (.cons o14 .nil) ?_
     exact ih (i + 1) (by omega) (fun j hj => by rcases Nat.lt_succ_iff_lt_or_eq.1 hj with g | g; exact hz j g; subst g; unfold okI; omega) (by omega)
    ·
     have h9p : ¬ ((bl s i) ≤ 122) := of_decide_eq_false h9
     refine GoS.run [0, 3, 4, 20, 23] [.n, .n, .n] _ [.inRegion (cops (csub (cd Try.f34) uA8)) [10,11,12,13,14,15,16,17,18], iC Try.f34 uA6, .inBlock 1, iC Try.f34 uA4, iL Try.f34 uA1, .inBlock 0, iC Try.f34 [1,1]] [(0, sS s), (3, iN i), (4, .int .u8 (bl s i)), (20, .bool false), (23, .bool (decide ((bl s i) ≥ 48)))] w (by kernel_rfl) .nil ?_
     refine GoS.fork 23 (decide ((bl s i) ≥ 48)) (by kernel_rfl) (fun h10 => ?_) (fun h10 => ?_)
     ·
      have h10p : (bl s i) ≥ 48 := of_decide_eq_true h10
      refine GoS.run [0, 3, 4, 28] [.n, .n, .n, .n, .n] _ [.inRegion (cops (csub (cd Try.f34) uA8)) [15,16,17,18], iC Try.f34 uA6, .inBlock 1, iC Try.f34 uA4, iL Try.f34 uA1, .inBlock 0, iC Try.f34 [1,1]] [(0, sS s), (3, iN i), (4, .int .u8 (bl s i)), (28, .bool (decide ((bl s i) ≤ 57)))] w (by kernel_rfl) .nil ?_
      refine GoS.fork 28 (decide ((bl s i) ≤ 57)) (by kernel_rfl) (fun h11 => ?_) (fun h11 => ?_)
      ·
       have h11p : (bl s i) ≤ 57 := of_decide_eq_true h11
       refine GoS.run [0, 3, 32] [.n, .n, .n, .n] _ [.inRegion (cops (csub (cd Try.f34) uA8)) [], iC Try.f34 uA6, .inBlock 1, iC Try.f34 uA4, iL Try.f34 uA1, .inBlock 0, iC Try.f34 [1,1]] [(0, sS s), (3, iN i), (32, .bool false)] w (by kernel_rfl) .nil ?_
       have o15 : (binOp .add 3 (iN i) (.int .i64 1)).run Try.prog w = .ok (iN (i + 1)) w := f_add (by rw [show ((i : Nat) : Int) + 1 = (((i + 1) : Nat) : Int) by omega]; exact IntWalk.i64_in _ (by omega))
       refine GoS.run [0, 3] [.n, .n, .n, .n, .n, .n, .h (iN (i + 1)), .n, .n, .n] _ [iC Try.f34 uA1, iL Try.f34 uA1, .inBlock 0, iC Try.f34 [1,1]] [(0, sS s), (3, iN (i + 1))] w (by kernel_rfl) (.cons o15 .nil) ?_
       exact ih (i + 1) (by omega) (fun j hj => by rcases Nat.lt_succ_iff_lt_or_eq.1 hj with g | g; exact hz j g; subst g; unfold okI; omega) (by omega)
      ·
       have h11p : ¬ ((bl s i) ≤ 57) := of_decide_eq_false h11
       refine GoS.run [0, 3, 32] [.n, .n, .n, .n] _ [.inRegion (cops (csub (cd Try.f34) uA8)) [], iC Try.f34 uA6, .inBlock 1, iC Try.f34 uA4, iL Try.f34 uA1, .inBlock 0, iC Try.f34 [1,1]] [(0, sS s), (3, iN i), (32, .bool (!((bl s i) == 95)))] w (by kernel_rfl) .nil ?_
       refine GoS.run [0, 3, 32] [.n] _ [iC Try.f34 uA6, .inBlock 1, iC Try.f34 uA4, iL Try.f34 uA1, .inBlock 0, iC Try.f34 [1,1]] [(0, sS s), (3, iN i), (32, .bool (!((bl s i) == 95)))] w (by kernel_rfl) .nil ?_
       refine GoS.cond (!((bl s i) == 95)) [iC Try.f34 uA13, .inBlock 1, iC Try.f34 uA4, iL Try.f34 uA1, .inBlock 0, iC Try.f34 [1,1]] [iC Try.f34 uA14, .inBlock 1, iC Try.f34 uA4, iL Try.f34 uA1, .inBlock 0, iC Try.f34 [1,1]] (by kernel_rfl) (fun h16 => ?_) (fun h16 => ?_)
       ·
        have h16p : ¬ ((bl s i) = 95) := p_ne (p_nf h16)
        refine GoS.run [2] [.n, .n, .n, .n] _ [iC Try.f34 uA15, .inBlock 1, iC Try.f34 uA4, iL Try.f34 uA1, .inBlock 0, iC Try.f34 [1,1]] [(2, .bool false)] w (by kernel_rfl) .nil ?_
        refine GoS.ret (fn := Try.f34) (v := (.bool false)) Try.func34 (by kernel_rfl) ?_
        rw [hR]
        exact ⟨ret_bool (name_no (j := i) (by omega) (by unfold okI; omega)).symm, rfl⟩
       ·
        have h16p : (bl s i) = 95 := eq_of_beq (p_nt h16)
        refine GoS.run [0, 3] [.n] _ [.inBlock 1, iC Try.f34 uA4, iL Try.f34 uA1, .inBlock 0, iC Try.f34 [1,1]] [(0, sS s), (3, iN i)] w (by kernel_rfl) .nil ?_
        have o17 : (binOp .add 3 (iN i) (.int .i64 1)).run Try.prog w = .ok (iN (i + 1)) w := f_add (by rw [show ((i : Nat) : Int) + 1 = (((i + 1) : Nat) : Int) by omega]; exact IntWalk.i64_in _ (by omega))
        refine GoS.run [0, 3] [.n, .n, .n, .h (iN (i + 1)), .n, .n, .n] _ [iC Try.f34 uA1, iL Try.f34 uA1, .inBlock 0, iC Try.f34 [1,1]] [(0, sS s), (3, iN (i + 1))] w (by kernel_rfl) (.cons o17 .nil) ?_
        exact ih (i + 1) (by omega) (fun j hj => by rcases Nat.lt_succ_iff_lt_or_eq.1 hj with g | g; exact hz j g; subst g; unfold okI; omega) (by omega)
     ·
      have h10p : ¬ ((bl s i) ≥ 48) := of_decide_eq_false h10
      refine GoS.run [0, 3, 32] [.n, .n, .n, .n, .n, .n, .n, .n, .n] _ [.inRegion (cops (csub (cd Try.f34) uA8)) [], iC Try.f34 uA6, .inBlock 1, iC Try.f34 uA4, iL Try.f34 uA1, .inBlock 0, iC Try.f34 [1,1]] [(0, sS s), (3, iN i), (32, .bool (!((bl s i) == 95)))] w (by kernel_rfl) .nil ?_
      refine GoS.run [0, 3, 32] [.n] _ [iC Try.f34 uA6, .inBlock 1, iC Try.f34 uA4, iL Try.f34 uA1, .inBlock 0, iC Try.f34 [1,1]] [(0, sS s), (3, iN i), (32, .bool (!((bl s i) == 95)))] w (by kernel_rfl) .nil ?_
      refine GoS.cond (!((bl s i) == 95)) [iC Try.f34 uA13, .inBlock 1, iC Try.f34 uA4, iL Try.f34 uA1, .inBlock 0, iC Try.f34 [1,1]] [iC Try.f34 uA14, .inBlock 1, iC Try.f34 uA4, iL Try.f34 uA1, .inBlock 0, iC Try.f34 [1,1]] (by kernel_rfl) (fun h18 => ?_) (fun h18 => ?_)
      ·
       have h18p : ¬ ((bl s i) = 95) := p_ne (p_nf h18)
       refine GoS.run [2] [.n, .n, .n, .n] _ [iC Try.f34 uA15, .inBlock 1, iC Try.f34 uA4, iL Try.f34 uA1, .inBlock 0, iC Try.f34 [1,1]] [(2, .bool false)] w (by kernel_rfl) .nil ?_
       refine GoS.ret (fn := Try.f34) (v := (.bool false)) Try.func34 (by kernel_rfl) ?_
       rw [hR]
       exact ⟨ret_bool (name_no (j := i) (by omega) (by unfold okI; omega)).symm, rfl⟩
      ·
       have h18p : (bl s i) = 95 := eq_of_beq (p_nt h18)
       refine GoS.run [0, 3] [.n] _ [.inBlock 1, iC Try.f34 uA4, iL Try.f34 uA1, .inBlock 0, iC Try.f34 [1,1]] [(0, sS s), (3, iN i)] w (by kernel_rfl) .nil ?_
       have o19 : (binOp .add 3 (iN i) (.int .i64 1)).run Try.prog w = .ok (iN (i + 1)) w := f_add (by rw [show ((i : Nat) : Int) + 1 = (((i + 1) : Nat) : Int) by omega]; exact IntWalk.i64_in _ (by omega))
       refine GoS.run [0, 3] [.n, .n, .n, .h (iN (i + 1)), .n, .n, .n] _ [iC Try.f34 uA1, iL Try.f34 uA1, .inBlock 0, iC Try.f34 [1,1]] [(0, sS s), (3, iN (i + 1))] w (by kernel_rfl) (.cons o19 .nil) ?_
       exact ih (i + 1) (by omega) (fun j hj => by rcases Nat.lt_succ_iff_lt_or_eq.1 hj with g | g; exact hz j g; subst g; unfold okI; omega) (by omega)
   ·
    have h8p : ¬ ((bl s i) ≥ 97) := of_decide_eq_false h8
    refine GoS.run [0, 3, 4, 20, 23] [.n, .n, .n, .n, .n, .n, .n] _ [.inRegion (cops (csub (cd Try.f34) uA8)) [10,11,12,13,14,15,16,17,18], iC Try.f34 uA6, .inBlock 1, iC Try.f34 uA4, iL Try.f34 uA1, .inBlock 0, iC Try.f34 [1,1]] [(0, sS s), (3, iN i), (4, .int .u8 (bl s i)), (20, .bool false), (23, .bool (decide ((bl s i) ≥ 48)))] w (by kernel_rfl) .nil ?_
    refine GoS.fork 23 (decide ((bl s i) ≥ 48)) (by kernel_rfl) (fun h12 => ?_) (fun h12 => ?_)
    ·
     have h12p : (bl s i) ≥ 48 := of_decide_eq_true h12
     refine GoS.run [0, 3, 4, 28] [.n, .n, .n, .n, .n] _ [.inRegion (cops (csub (cd Try.f34) uA8)) [15,16,17,18], iC Try.f34 uA6, .inBlock 1, iC Try.f34 uA4, iL Try.f34 uA1, .inBlock 0, iC Try.f34 [1,1]] [(0, sS s), (3, iN i), (4, .int .u8 (bl s i)), (28, .bool (decide ((bl s i) ≤ 57)))] w (by kernel_rfl) .nil ?_
     refine GoS.fork 28 (decide ((bl s i) ≤ 57)) (by kernel_rfl) (fun h13 => ?_) (fun h13 => ?_)
     ·
      have h13p : (bl s i) ≤ 57 := of_decide_eq_true h13
      refine GoS.run [0, 3, 32] [.n, .n, .n, .n] _ [.inRegion (cops (csub (cd Try.f34) uA8)) [], iC Try.f34 uA6, .inBlock 1, iC Try.f34 uA4, iL Try.f34 uA1, .inBlock 0, iC Try.f34 [1,1]] [(0, sS s), (3, iN i), (32, .bool false)] w (by kernel_rfl) .nil ?_
      have o20 : (binOp .add 3 (iN i) (.int .i64 1)).run Try.prog w = .ok (iN (i + 1)) w := f_add (by rw [show ((i : Nat) : Int) + 1 = (((i + 1) : Nat) : Int) by omega]; exact IntWalk.i64_in _ (by omega))
      refine GoS.run [0, 3] [.n, .n, .n, .n, .n, .n, .h (iN (i + 1)), .n, .n, .n] _ [iC Try.f34 uA1, iL Try.f34 uA1, .inBlock 0, iC Try.f34 [1,1]] [(0, sS s), (3, iN (i + 1))] w (by kernel_rfl) (.cons o20 .nil) ?_
      exact ih (i + 1) (by omega) (fun j hj => by rcases Nat.lt_succ_iff_lt_or_eq.1 hj with g | g; exact hz j g; subst g; unfold okI; omega) (by omega)
     ·
      have h13p : ¬ ((bl s i) ≤ 57) := of_decide_eq_false h13
      refine GoS.run [0, 3, 32] [.n, .n, .n, .n] _ [.inRegion (cops (csub (cd Try.f34) uA8)) [], iC Try.f34 uA6, .inBlock 1, iC Try.f34 uA4, iL Try.f34 uA1, .inBlock 0, iC Try.f34 [1,1]] [(0, sS s), (3, iN i), (32, .bool (!((bl s i) == 95)))] w (by kernel_rfl) .nil ?_
      refine GoS.run [0, 3, 32] [.n] _ [iC Try.f34 uA6, .inBlock 1, iC Try.f34 uA4, iL Try.f34 uA1, .inBlock 0, iC Try.f34 [1,1]] [(0, sS s), (3, iN i), (32, .bool (!((bl s i) == 95)))] w (by kernel_rfl) .nil ?_
      refine GoS.cond (!((bl s i) == 95)) [iC Try.f34 uA13, .inBlock 1, iC Try.f34 uA4, iL Try.f34 uA1, .inBlock 0, iC Try.f34 [1,1]] [iC Try.f34 uA14, .inBlock 1, iC Try.f34 uA4, iL Try.f34 uA1, .inBlock 0, iC Try.f34 [1,1]] (by kernel_rfl) (fun h21 => ?_) (fun h21 => ?_)
      ·
       have h21p : ¬ ((bl s i) = 95) := p_ne (p_nf h21)
       refine GoS.run [2] [.n, .n, .n, .n] _ [iC Try.f34 uA15, .inBlock 1, iC Try.f34 uA4, iL Try.f34 uA1, .inBlock 0, iC Try.f34 [1,1]] [(2, .bool false)] w (by kernel_rfl) .nil ?_
       refine GoS.ret (fn := Try.f34) (v := (.bool false)) Try.func34 (by kernel_rfl) ?_
       rw [hR]
       exact ⟨ret_bool (name_no (j := i) (by omega) (by unfold okI; omega)).symm, rfl⟩
      ·
       have h21p : (bl s i) = 95 := eq_of_beq (p_nt h21)
       refine GoS.run [0, 3] [.n] _ [.inBlock 1, iC Try.f34 uA4, iL Try.f34 uA1, .inBlock 0, iC Try.f34 [1,1]] [(0, sS s), (3, iN i)] w (by kernel_rfl) .nil ?_
       have o22 : (binOp .add 3 (iN i) (.int .i64 1)).run Try.prog w = .ok (iN (i + 1)) w := f_add (by rw [show ((i : Nat) : Int) + 1 = (((i + 1) : Nat) : Int) by omega]; exact IntWalk.i64_in _ (by omega))
       refine GoS.run [0, 3] [.n, .n, .n, .h (iN (i + 1)), .n, .n, .n] _ [iC Try.f34 uA1, iL Try.f34 uA1, .inBlock 0, iC Try.f34 [1,1]] [(0, sS s), (3, iN (i + 1))] w (by kernel_rfl) (.cons o22 .nil) ?_
       exact ih (i + 1) (by omega) (fun j hj => by rcases Nat.lt_succ_iff_lt_or_eq.1 hj with g | g; exact hz j g; subst g; unfold okI; omega) (by omega)
    ·
     have h12p : ¬ ((bl s i) ≥ 48) := of_decide_eq_false h12
     refine GoS.run [0, 3, 32] [.n, .n, .n, .n, .n, .n, .n, .n, .n] _ [.inRegion (cops (csub (cd Try.f34) uA8)) [], iC Try.f34 uA6, .inBlock 1, iC Try.f34 uA4, iL Try.f34 uA1, .inBlock 0, iC Try.f34 [1,1]] [(0, sS s), (3, iN i), (32, .bool (!((bl s i) == 95)))] w (by kernel_rfl) .nil ?_
     refine GoS.run [0, 3, 32] [.n] _ [iC Try.f34 uA6, .inBlock 1, iC Try.f34 uA4, iL Try.f34 uA1, .inBlock 0, iC Try.f34 [1,1]] [(0, sS s), (3, iN i), (32, .bool (!((bl s i) == 95)))] w (by kernel_rfl) .nil ?_
     refine GoS.cond (!((bl s i) == 95)) [iC Try.f34 uA13, .inBlock 1, iC Try.f34 uA4, iL Try.f34 uA1, .inBlock 0, iC Try.f34 [1,1]] [iC Try.f34 uA14, .inBlock 1, iC Try.f34 uA4, iL Try.f34 uA1, .inBlock 0, iC Try.f34 [1,1]] (by kernel_rfl) (fun h23 => ?_) (fun h23 => ?_)
     ·
      have h23p : ¬ ((bl s i) = 95) := p_ne (p_nf h23)
      refine GoS.run [2] [.n, .n, .n, .n] _ [iC Try.f34 uA15, .inBlock 1, iC Try.f34 uA4, iL Try.f34 uA1, .inBlock 0, iC Try.f34 [1,1]] [(2, .bool false)] w (by kernel_rfl) .nil ?_
      refine GoS.ret (fn := Try.f34) (v := (.bool false)) Try.func34 (by kernel_rfl) ?_
      rw [hR]
      exact ⟨ret_bool (name_no (j := i) (by omega) (by unfold okI; omega)).symm, rfl⟩
     ·
      have h23p : (bl s i) = 95 := eq_of_beq (p_nt h23)
      refine GoS.run [0, 3] [.n] _ [.inBlock 1, iC Try.f34 uA4, iL Try.f34 uA1, .inBlock 0, iC Try.f34 [1,1]] [(0, sS s), (3, iN i)] w (by kernel_rfl) .nil ?_
      have o24 : (binOp .add 3 (iN i) (.int .i64 1)).run Try.prog w = .ok (iN (i + 1)) w := f_add (by rw [show ((i : Nat) : Int) + 1 = (((i + 1) : Nat) : Int) by omega]; exact IntWalk.i64_in _ (by omega))
      refine GoS.run [0, 3] [.n, .n, .n, .h (iN (i + 1)), .n, .n, .n] _ [iC Try.f34 uA1, iL Try.f34 uA1, .inBlock 0, iC Try.f34 [1,1]] [(0, sS s), (3, iN (i + 1))] w (by kernel_rfl) (.cons o24 .nil) ?_
      exact ih (i + 1) (by omega) (fun j hj => by rcases Nat.lt_succ_iff_lt_or_eq.1 hj with g | g; exact hz j g; subst g; unfold okI; omega) (by omega)
  ·
   have h2p : ¬ (((i : Nat) : Int) < ((s.length : Nat) : Int)) := of_decide_eq_false h2
   have o3 : (Builtin.len_ #[9] 3 #[sS s]).run Try.prog w = .ok (iN s.length) w := f_len (by kernel_rfl)
   refine GoS.run [0, 36] [.n, .n, .n, .n, .h (iN s.length), .n, .n] _ [.inRegion (cops (csub (cd Try.f34) [1,1,0])) [4,5,6,7,8], iC Try.f34 uA2] [(0, sS s), (36, .bool (decide (((s.length : Nat) : Int) ≥ 1)))] w (by kernel_rfl) (.cons o3 .nil) ?_
   refine GoS.fork 36 (decide (((s.length : Nat) : Int) ≥ 1)) (by kernel_rfl) (fun h4 => ?_) (fun h4 => ?_)
   ·
    have h4p : ((s.length : Nat) : Int) ≥ 1 := of_decide_eq_true h4
    have o5 : (Builtin.len_ #[9] 3 #[sS s]).run Try.prog w = .ok (iN s.length) w := f_len (by kernel_rfl)
    refine GoS.run [2] [.n, .h (iN s.length), .n, .n, .n] _ [.inRegion (cops (csub (cd Try.f34) [1,1,0])) [], iC Try.f34 uA2] [(2, .bool (decide (((s.length : Nat) : Int) ≤ 16)))] w (by kernel_rfl) (.cons o5 .nil) ?_
    refine GoS.run [2] [.n] _ [iC Try.f34 uA2] [(2, .bool (decide (((s.length : Nat) : Int) ≤ 16)))] w (by kernel_rfl) .nil ?_
    refine GoS.ret (fn := Try.f34) (v := (.bool (decide (((s.length : Nat) : Int) ≤ 16)))) Try.func34 (by kernel_rfl) ?_
    rw [hR]
    exact ⟨ret_bool (by by_cases g : List.length s ≤ 16; rw [name_yes (by omega) (fun j hj => hz j (by omega)), decide_eq_true (by omega)]; rw [name_len (by omega), decide_eq_false (by omega)]), rfl⟩
   ·
    have h4p : ¬ (((s.length : Nat) : Int) ≥ 1) := of_decide_eq_false h4
    refine GoS.run [2] [.n, .n, .n, .n, .n] _ [.inRegion (cops (csub (cd Try.f34) [1,1,0])) [], iC Try.f34 uA2] [(2, .bool false)] w (by kernel_rfl) .nil ?_
    refine GoS.run [2] [.n] _ [iC Try.f34 uA2] [(2, .bool false)] w (by kernel_rfl) .nil ?_
    refine GoS.ret (fn := Try.f34) (v := (.bool false)) Try.func34 (by kernel_rfl) ?_
    rw [hR]
    exact ⟨ret_bool (name_len (by omega)).symm, rfl⟩

set_option maxHeartbeats 400000 in
theorem rname_c (s : List UInt8) (hs : s.length ≤ 9223372036854775807) (w : World) :
  Calls Try.prog 34 #[sS s] w (fun e w' => e = .returned (.bool (nameP s)) ∧ w = w') := by
 obtain ⟨R, hR⟩ : ∃ R : Ending → World → Prop, R = (fun e w' => e = .returned (.bool (nameP s)) ∧ w = w') := ⟨_, rfl⟩
 rw [← hR]
 refine GoS.enter (n := 41) Try.func34 (by kernel_rfl) rfl [(0, sS s)] (by kernel_rfl) (by kernel_rfl) ?_
 refine GoS.run [0, 3] [.n, .n, .n, .n, .n, .n, .n, .n, .n, .n, .n] _ [iC Try.f34 uA1, iL Try.f34 uA1, .inBlock 0, iC Try.f34 [1,1]] [(0, sS s), (3, .int .i64 0)] w (by kernel_rfl) .nil ?_
 exact rname_c_L s hs w R hR (s.length + 1) 0 (Nat.zero_le _) (fun j hj => absurd hj (Nat.not_lt_zero _)) (by omega)


theorem sT55 : SliceT Try.prog 55 9 1 16 (.string (sb ([]))) := ⟨by kernel_rfl, ⟨_, rfl, by kernel_rfl, by kernel_rfl, by kernel_rfl⟩, rfl, by decide⟩
theorem pE9 : Plain Try.prog 9 := ⟨.string, by kernel_rfl, (fun _ h => by cases h), (fun _ _ h => by cases h)⟩

abbrev uB0 : List Nat := [1,0,1,0,0]
abbrev uB1 : List Nat := [1,0,1,0,0,1,1,1]
abbrev uB2 : List Nat := [1,0,1,0,0,1,1,0,0,1,1]
abbrev uB3 : List Nat := [1,0,1,0,0,1,1,0,0,1,0]
set_option maxHeartbeats 400000 in
theorem names_L {w0 : World} (v : Value) (l : List (List UInt8)) (hv : Rd w0 1 v l.length (svals l)) (R : Ending → World → Prop) (hR : R = (fun e w' => e = .returned (.bool (namesP l)) ∧ Mem [] w0 w' [])) : ∀ (N : Nat) (i : Nat) (w : World) (hi : i ≤ l.length) (hR0 : risesF (prevN l i) (l.drop i) = risesF none l) (hM : Mem [] w0 w []) (hN : l.length - i < N), GoS Try.prog 38 R 32 [iC Try.f38 uB0, iL Try.f38 uB0, .inBlock 0, iC Try.f38 [1,1]] [(0, v), (5, v), (6, iN (List.length l)), (7, iN i)] w := by
 intro N
 induction N with
 | zero => intro i w hi hR0 hM hN; exact absurd hN (Nat.not_lt_zero _)
 | succ N ih =>
  intro i w hi hR0 hM hN
  have hln := rd_len hv
  simp only [maxLen] at hln
  refine GoS.run [0, 5, 6, 7, 8] [.n, .n, .n, .n, .n] _ [iC Try.f38 [1,0,1,0,0,1,0], iC Try.f38 [1,0,1,0,0,1,1], iL Try.f38 uB0, .inBlock 0, iC Try.f38 [1,1]] [(0, v), (5, v), (6, iN (List.length l)), (7, iN i), (8, .bool (decide (((i : Nat) : Int) < (((List.length l) : Nat) : Int))))] w (by kernel_rfl) .nil ?_
  refine GoS.cond (decide (((i : Nat) : Int) < (((List.length l) : Nat) : Int))) [iC Try.f38 [1,0,1,0,0,1,0,0], iC Try.f38 [1,0,1,0,0,1,1], iL Try.f38 uB0, .inBlock 0, iC Try.f38 [1,1]] [iC Try.f38 [1,0,1,0,0,1,0,1], iC Try.f38 [1,0,1,0,0,1,1], iL Try.f38 uB0, .inBlock 0, iC Try.f38 [1,1]] (by kernel_rfl) (fun h1 => ?_) (fun h1 => ?_)
  ·
   have h1p : ((i : Nat) : Int) < (((List.length l) : Nat) : Int) := of_decide_eq_true h1
   refine GoS.run [0, 5, 6, 7] [.n] _ [iC Try.f38 [1,0,1,0,0,1,1], iL Try.f38 uB0, .inBlock 0, iC Try.f38 [1,1]] [(0, v), (5, v), (6, iN (List.length l)), (7, iN i)] w (by kernel_rfl) .nil ?_
   obtain ⟨p3, hp4, hq5⟩ := rd_at (i := ((i : Nat) : Int)) sT55 (hv.kept0 hM.kept) i (by omega) (by first | omega | (dsimp only; omega))
   have o6 : (Instr.indexAt 55 (v) (iN i)).run Try.prog w = .ok (.pointer (some p3)) w := hq5 _ _
   have o7 : (Instr.loadAt 9 (.pointer (some p3))).run Try.prog w = .ok (sS (List.getD l i [])) w := at_load pE9 (hv.kept0 hM.kept) hp4 (svals_at (by first | omega | (dsimp only; omega)))
   refine GoS.run [0, 3, 4, 5, 6, 7, 12] [.n, .n, .n, .n, .n, .h (.pointer (some p3)), .h (sS (List.getD l i [])), .n, .n, .n, .n, .n, .n] _ [.inRegion (cops (csub (cd Try.f38) uB3)) [1,2,3,4,5,6,7,8,9,10,11,12,13,14,15], iC Try.f38 uB2, .inBlock 1, iC Try.f38 uB1, iL Try.f38 uB0, .inBlock 0, iC Try.f38 [1,1]] [(0, v), (3, iN i), (4, sS (List.getD l i [])), (5, v), (6, iN (List.length l)), (7, iN i), (12, sS (List.getD l i []))] w (by kernel_rfl) (.cons o6 (.cons o7 .nil)) ?_
   refine GoS.call [0, 3, 4, 5, 6, 7] 27 #[sS (List.getD l i [])] (some 13) [.inRegion (cops (csub (cd Try.f38) uB3)) [2,3,4,5,6,7,8,9,10,11,12,13,14,15], iC Try.f38 uB2, .inBlock 1, iC Try.f38 uB1, iL Try.f38 uB0, .inBlock 0, iC Try.f38 [1,1]] [(0, v), (3, iN i), (4, sS (List.getD l i [])), (5, v), (6, iN (List.length l)), (7, iN i)] (by kernel_rfl) (name_c (List.getD l i []) w) ?_
   rintro _ _ ⟨rfl, rfl⟩
   refine ⟨_, rfl, ?_⟩
   refine GoS.run [0, 3, 4, 5, 6, 7, 15] [.n, .n] _ [.inRegion (cops (csub (cd Try.f38) uB3)) [4,5,6,7,8,9,10,11,12,13,14,15], iC Try.f38 uB2, .inBlock 1, iC Try.f38 uB1, iL Try.f38 uB0, .inBlock 0, iC Try.f38 [1,1]] [(0, v), (3, iN i), (4, sS (List.getD l i [])), (5, v), (6, iN (List.length l)), (7, iN i), (15, .bool (!(nameP (List.getD l i []))))] w (by kernel_rfl) .nil ?_
   refine GoS.fork 15 (!(nameP (List.getD l i []))) (by kernel_rfl) (fun h8 => ?_) (fun h8 => ?_)
   ·
    refine GoS.run [0, 5, 6, 7, 27] [.n, .n, .n, .n, .n, .n, .n, .n, .n, .n, .n, .n] _ [.inRegion (cops (csub (cd Try.f38) uB3)) [], iC Try.f38 uB2, .inBlock 1, iC Try.f38 uB1, iL Try.f38 uB0, .inBlock 0, iC Try.f38 [1,1]] [(0, v), (5, v), (6, iN (List.length l)), (7, iN i), (27, .bool true)] w (by kernel_rfl) .nil ?_
    refine GoS.run [2] [.n, .n, .n, .n, .n, .n] _ [iC Try.f38 [1,0,1,0,0,1,1,0,0,1,1,0,1], .inBlock 1, iC Try.f38 uB1, iL Try.f38 uB0, .inBlock 0, iC Try.f38 [1,1]] [(2, .bool false)] w (by kernel_rfl) .nil ?_
    refine GoS.ret (fn := Try.f38) (v := (.bool false)) Try.func38 (by kernel_rfl) ?_
    rw [hR]
    exact ⟨ret_bool (by unfold namesP; rw [← hR0, rises_name (by omega) (by simpa using h8)]; rfl), hM.sub sN⟩
   ·
    refine GoS.run [0, 3, 4, 5, 6, 7, 15, 18] [.n, .n, .n] _ [.inRegion (cops (csub (cd Try.f38) uB3)) [7,8,9,10,11,12,13,14,15], iC Try.f38 uB2, .inBlock 1, iC Try.f38 uB1, iL Try.f38 uB0, .inBlock 0, iC Try.f38 [1,1]] [(0, v), (3, iN i), (4, sS (List.getD l i [])), (5, v), (6, iN (List.length l)), (7, iN i), (15, .bool false), (18, .bool (decide (((i : Nat) : Int) > 0)))] w (by kernel_rfl) .nil ?_
    refine GoS.fork 18 (decide (((i : Nat) : Int) > 0)) (by kernel_rfl) (fun h9 => ?_) (fun h9 => ?_)
    ·
     have h9p : ((i : Nat) : Int) > 0 := of_decide_eq_true h9
     have o13 : (binOp .sub 3 (iN i) (.int .i64 1)).run Try.prog w = .ok (.int .i64 (((i : Nat) : Int) - 1)) w := f_sub (IntWalk.i64_in _ (by omega))
     obtain ⟨p10, hp11, hq12⟩ := rd_at (i := (((i : Nat) : Int) - 1)) sT55 (hv.kept0 hM.kept) (Int.toNat (((i : Nat) : Int) - 1)) (by omega) (by first | omega | (dsimp only; omega))
     have o14 : (Instr.indexAt 55 (v) (.int .i64 (((i : Nat) : Int) - 1))).run Try.prog w = .ok (.pointer (some p10)) w := hq12 _ _
     have o15 : (Instr.loadAt 9 (.pointer (some p10))).run Try.prog w = .ok (sS (List.getD l (Int.toNat (((i : Nat) : Int) - 1)) [])) w := at_load pE9 (hv.kept0 hM.kept) hp11 (svals_at (by first | omega | (dsimp only; omega)))
     have o16 : Sem.run Try.prog (do pure (Next.value (← binOp .leq 9 (sS (List.getD l i [])) (sS (List.getD l (Int.toNat (((i : Nat) : Int) - 1)) []))))) w = .ok (.value (.bool (!(Op.bytesLess (List.getD l (Int.toNat (((i : Nat) : Int) - 1)) []) (List.getD l i []))))) w := f_strle (List.getD l i []) (List.getD l (Int.toNat (((i : Nat) : Int) - 1)) []) w
     refine GoS.run [0, 5, 6, 7, 27] [.n, .n, .n, .h (.int .i64 (((i : Nat) : Int) - 1)), .h (.pointer (some p10)), .h (sS (List.getD l (Int.toNat (((i : Nat) : Int) - 1)) [])), .h (.bool (!(Op.bytesLess (List.getD l (Int.toNat (((i : Nat) : Int) - 1)) []) (List.getD l i [])))), .n, .n] _ [.inRegion (cops (csub (cd Try.f38) uB3)) [], iC Try.f38 uB2, .inBlock 1, iC Try.f38 uB1, iL Try.f38 uB0, .inBlock 0, iC Try.f38 [1,1]] [(0, v), (5, v), (6, iN (List.length l)), (7, iN i), (27, .bool (!(Op.bytesLess (List.getD l (Int.toNat (((i : Nat) : Int) - 1)) []) (List.getD l i []))))] w (by kernel_rfl) (.cons o13 (.cons o14 (.cons o15 (.cons o16 .nil)))) ?_
     refine GoS.run [0, 5, 6, 7, 27] [.n] _ [iC Try.f38 uB2, .inBlock 1, iC Try.f38 uB1, iL Try.f38 uB0, .inBlock 0, iC Try.f38 [1,1]] [(0, v), (5, v), (6, iN (List.length l)), (7, iN i), (27, .bool (!(Op.bytesLess (List.getD l (Int.toNat (((i : Nat) : Int) - 1)) []) (List.getD l i []))))] w (by kernel_rfl) .nil ?_
     refine GoS.cond (!(Op.bytesLess (List.getD l (Int.toNat (((i : Nat) : Int) - 1)) []) (List.getD l i []))) [iC Try.f38 [1,0,1,0,0,1,1,0,0,1,1,0], .inBlock 1, iC Try.f38 uB1, iL Try.f38 uB0, .inBlock 0, iC Try.f38 [1,1]] [iC Try.f38 [1,0,1,0,0,1,1,0,0,1,1,1], .inBlock 1, iC Try.f38 uB1, iL Try.f38 uB0, .inBlock 0, iC Try.f38 [1,1]] (by kernel_rfl) (fun h17 => ?_) (fun h17 => ?_)
     ·
      refine GoS.run [2] [.n, .n, .n, .n] _ [iC Try.f38 [1,0,1,0,0,1,1,0,0,1,1,0,1], .inBlock 1, iC Try.f38 uB1, iL Try.f38 uB0, .inBlock 0, iC Try.f38 [1,1]] [(2, .bool false)] w (by kernel_rfl) .nil ?_
      refine GoS.ret (fn := Try.f38) (v := (.bool false)) Try.func38 (by kernel_rfl) ?_
      rw [hR]
      exact ⟨ret_bool (by unfold namesP; rw [← hR0, rises_low (by omega) (by omega) (by simpa using h17)]; rfl), hM.sub sN⟩
     ·
      refine GoS.run [0, 5, 6, 7] [.n] _ [.inBlock 1, iC Try.f38 uB1, iL Try.f38 uB0, .inBlock 0, iC Try.f38 [1,1]] [(0, v), (5, v), (6, iN (List.length l)), (7, iN i)] w (by kernel_rfl) .nil ?_
      have o18 : (binOp .add 3 (iN i) (.int .i64 1)).run Try.prog w = .ok (iN (i + 1)) w := f_add (by rw [show ((i : Nat) : Int) + 1 = (((i + 1) : Nat) : Int) by omega]; exact IntWalk.i64_in _ (by omega))
      refine GoS.run [0, 5, 6, 7] [.n, .n, .h (iN (i + 1)), .n, .n, .n] _ [iC Try.f38 uB0, iL Try.f38 uB0, .inBlock 0, iC Try.f38 [1,1]] [(0, v), (5, v), (6, iN (List.length l)), (7, iN (i + 1))] w (by kernel_rfl) (.cons o18 .nil) ?_
      exact ih (i + 1) _ (by omega) ((rises_on (by omega) (by omega) (by simpa using h8) (by simpa using h17)).symm.trans hR0) (hM.sub sN) (by omega)
    ·
     have h9p : ¬ (((i : Nat) : Int) > 0) := of_decide_eq_false h9
     refine GoS.run [0, 5, 6, 7, 27] [.n, .n, .n, .n, .n, .n, .n, .n, .n] _ [.inRegion (cops (csub (cd Try.f38) uB3)) [], iC Try.f38 uB2, .inBlock 1, iC Try.f38 uB1, iL Try.f38 uB0, .inBlock 0, iC Try.f38 [1,1]] [(0, v), (5, v), (6, iN (List.length l)), (7, iN i), (27, .bool false)] w (by kernel_rfl) .nil ?_
     have o19 : (binOp .add 3 (iN i) (.int .i64 1)).run Try.prog w = .ok (iN (i + 1)) w := f_add (by rw [show ((i : Nat) : Int) + 1 = (((i + 1) : Nat) : Int) by omega]; exact IntWalk.i64_in _ (by omega))
     refine GoS.run [0, 5, 6, 7] [.n, .n, .n, .n, .n, .h (iN (i + 1)), .n, .n, .n] _ [iC Try.f38 uB0, iL Try.f38 uB0, .inBlock 0, iC Try.f38 [1,1]] [(0, v), (5, v), (6, iN (List.length l)), (7, iN (i + 1))] w (by kernel_rfl) (.cons o19 .nil) ?_
     exact ih (i + 1) _ (by omega) ((rises_zero (by omega) (by omega) (by simpa using h8)).symm.trans hR0) (hM.sub sN) (by omega)
  ·
   have h1p : ¬ (((i : Nat) : Int) < (((List.length l) : Nat) : Int)) := of_decide_eq_false h1
   have o2 : (Builtin.len_ #[55] 3 #[v]).run Try.prog w = .ok (iN (List.length l)) w := f_slen sT55 (hv.kept0 hM.kept) 3 _
   refine GoS.run [2] [.n, .n, .n, .n, .h (iN (List.length l)), .n, .n, .n] _ [iC Try.f38 [1,1,1]] [(2, .bool (decide ((((List.length l) : Nat) : Int) ≤ 8)))] w (by kernel_rfl) (.cons o2 .nil) ?_
   refine GoS.ret (fn := Try.f38) (v := (.bool (decide ((((List.length l) : Nat) : Int) ≤ 8)))) Try.func38 (by kernel_rfl) ?_
   rw [hR]
   exact ⟨ret_bool (by unfold namesP; rw [← hR0, rises_all (by omega), Bool.true_and]; exact decide_eq_decide.2 (by omega)), hM.sub sN⟩

set_option maxHeartbeats 400000 in
theorem names_c {w : World} (v : Value) (l : List (List UInt8)) (hv : Rd w 1 v l.length (svals l)) :
  Calls Try.prog 38 #[v] w (fun e w' => e = .returned (.bool (namesP l)) ∧ Mem [] w w' []) := by
 obtain ⟨R, hR⟩ : ∃ R : Ending → World → Prop, R = (fun e w' => e = .returned (.bool (namesP l)) ∧ Mem [] w w' []) := ⟨_, rfl⟩
 rw [← hR]
 refine GoS.enter (n := 32) Try.func38 (by kernel_rfl) rfl [(0, v)] (by kernel_rfl) (by kernel_rfl) ?_
 have hM0 := Mem.start w
 have o1 : (Builtin.len_ #[55] 3 #[v]).run Try.prog w = .ok (iN (List.length l)) w := f_slen sT55 (hv.kept0 hM0.kept) 3 _
 refine GoS.run [0, 5, 6, 7] [.n, .n, .n, .n, .n, .n, .n, .n, .h (iN (List.length l)), .n, .n, .n, .n] _ [iC Try.f38 uB0, iL Try.f38 uB0, .inBlock 0, iC Try.f38 [1,1]] [(0, v), (5, v), (6, iN (List.length l)), (7, .int .i64 0)] w (by kernel_rfl) (.cons o1 .nil) ?_
 exact names_L v l hv R hR (l.length + 1) 0 w (Nat.zero_le _) rfl (hM0.sub sN) (by omega)


theorem sT23 : SliceT Try.prog 23 60 2 24 (.agg #[.string (sb ([])), .int .u64 0]) := ⟨by kernel_rfl, ⟨_, rfl, by kernel_rfl, by kernel_rfl, by kernel_rfl⟩, rfl, by decide⟩
theorem sT27 : SliceT Try.prog 27 68 2 40 (.agg #[.string (sb ([])), .slice none 0 0]) := ⟨by kernel_rfl, ⟨_, rfl, by kernel_rfl, by kernel_rfl, by kernel_rfl⟩, rfl, by decide⟩
theorem pE23 : Plain Try.prog 23 := ⟨.slice 60, by kernel_rfl, (fun _ h => by cases h), (fun _ _ h => by cases h)⟩
theorem pE27 : Plain Try.prog 27 := ⟨.slice 68, by kernel_rfl, (fun _ h => by cases h), (fun _ _ h => by cases h)⟩
theorem pE64 : Plain Try.prog 64 := ⟨.slice 79, by kernel_rfl, (fun _ h => by cases h), (fun _ _ h => by cases h)⟩
theorem oT60 : ObjT Try.prog 60 2 (.agg #[.string (sb ([])), .int .u64 0]) := ⟨⟨_, rfl, by kernel_rfl, by kernel_rfl⟩, rfl⟩
theorem oT68 : ObjT Try.prog 68 2 (.agg #[.string (sb ([])), .slice none 0 0]) := ⟨⟨_, rfl, by kernel_rfl, by kernel_rfl⟩, rfl⟩
theorem oT79 : ObjT Try.prog 79 2 (.agg #[.string (sb ([])), .int .i64 0]) := ⟨⟨_, rfl, by kernel_rfl, by kernel_rfl⟩, rfl⟩
theorem aE60 : Agged Try.prog 60 2 := ⟨⟨_, Try.underlying60, .inl ⟨_, rfl⟩⟩, _, rfl, by kernel_rfl⟩
theorem aE68 : Agged Try.prog 68 2 := ⟨⟨_, Try.underlying68, .inl ⟨_, rfl⟩⟩, _, rfl, by kernel_rfl⟩
theorem aE79 : Agged Try.prog 79 2 := ⟨⟨_, Try.underlying79, .inl ⟨_, rfl⟩⟩, _, rfl, by kernel_rfl⟩

abbrev uC0 : List Nat := [1,1,1,1,0,1,0,0]
abbrev uC1 : List Nat := [1,1,1,1,1]
abbrev uC2 : List Nat := [1,1,1,1,0,1,0,0,1,1,1]
abbrev uC3 : List Nat := [1,1,1,1,0,1,0,0,1,1,0,0,1,1,1,1,0,0]
abbrev uC4 : List Nat := [1,1,1,1,0,1,0,0,1,1,0,0,1,1,1,1,0,0,1,1,1]
abbrev uC5 : List Nat := [1,1,1,0,1,0,0]
abbrev uC6 : List Nat := [1,1,1,1,1,1]
abbrev uC7 : List Nat := [1,1,1,1,1,0]
abbrev uC8 : List Nat := [1,1,1,1,0,1,0,0,1,1,0,0,1,1,1,1,0,0,1,1,0,0,1,1]
abbrev uC9 : List Nat := [1,1,1,1,0,1,0,0,1,1,0,0,1,1,1,1,0,0,1,1,0,0,1,0]
abbrev uC10 : List Nat := [1,1,1,1,0,1,0,0,1,1,0,0,1,1,1]
abbrev uC11 : List Nat := [1,1,1,1,0,1,0,0,1,1,0,0,1,1,1,1,0,0,1,1]
abbrev uC12 : List Nat := [1,1,1,1,0,1,0,0,1,1]
abbrev uC13 : List Nat := [1,1,1,0,1,0,0,1,1]
abbrev uC14 : List Nat := [1,1,1,1,0,1,0,0,1,1,0,0,1,1,1,1,0,0,1,1,0,0,1,1,0,1]
set_option maxHeartbeats 1000000 in
theorem check_L3 {w0 : World} (p : Pc) (nv wv : Value) (hn : Rd w0 2 nv p.nums.length (recs nmC p.nums)) (Z : List WZ) (hZ : p.words = Z.map WZ.wd) (hz : Rd w0 2 wv Z.length (recs wzC Z)) (ht : ∀ z ∈ Z, Rd w0 2 z.toks z.wd.toks.length (recs tokc z.wd.toks)) (hb1 : p.nums.length ≤ 6000000000000) (hb2 : p.words.length ≤ 6000000000000) (hk : 1 ≤ p.key.length ∧ p.key.length ≤ 32) (vn vw : Value) (i : Nat) (hi : i < Z.length) (h4 : ¬ ((List.getD Z i wz).wd.toks).length > 4096) (R : Ending → World → Prop) (hR : R = (fun e w' => e = .returned (.bool (checkP p)) ∧ Mem [] w0 w' [])) : ∀ (N : Nat) (k : Nat) (w : World) (out : ∀ (w : World), Mem [] w0 w [⟨9, 1, vn, (List.length (List.map Nm.name p.nums)), (svals (List.map Nm.name p.nums))⟩, ⟨9, 1, vw, (List.length (List.map (fun z => z.wd.name) (List.take i Z) ++ [(List.getD Z i wz).wd.name])), (svals (List.map (fun z => z.wd.name) (List.take i Z) ++ [(List.getD Z i wz).wd.name]))⟩] → wordG (List.getD Z i wz).wd = true → GoS Try.prog 13 R 80 [iC Try.f13 uC0, iL Try.f13 uC0, .inBlock 2, iC Try.f13 uC1] [(3, vn), (4, vw), (34, wv), (35, iN (List.length Z)), (36, iN (i + 1))] w) (hk2 : k ≤ ((List.getD Z i wz).wd.toks).length) (hT : tokG k (((List.getD Z i wz).wd.toks).drop k) = tokG 0 ((List.getD Z i wz).wd.toks)) (hM : Mem [] w0 w [⟨9, 1, vn, (List.length (List.map Nm.name p.nums)), (svals (List.map Nm.name p.nums))⟩, ⟨9, 1, vw, (List.length (List.map (fun z => z.wd.name) (List.take i Z) ++ [(List.getD Z i wz).wd.name])), (svals (List.map (fun z => z.wd.name) (List.take i Z) ++ [(List.getD Z i wz).wd.name]))⟩]) (hN : ((List.getD Z i wz).wd.toks).length - k < N), GoS Try.prog 13 R 80 [iC Try.f13 uC3, iL Try.f13 uC3, .inBlock 4, .inBlock 3, iC Try.f13 uC2, iL Try.f13 uC0, .inBlock 2, iC Try.f13 uC1] [(3, vn), (4, vw), (34, wv), (35, iN (List.length Z)), (36, iN i), (50, ((List.getD Z i wz).toks)), (51, iN (List.length ((List.getD Z i wz).wd.toks))), (52, iN k)] w := by
 intro N
 induction N with
 | zero => intro k w out hk2 hT hM hN; exact absurd hN (Nat.not_lt_zero _)
 | succ N ih =>
  intro k w out hk2 hT hM hN
  have hl1 := rd_len hn
  have hl2 := rd_len hz
  simp only [maxLen] at hl1 hl2
  have hb3 : Z.length ≤ 6000000000000 := by rw [hZ, List.length_map] at hb2; exact hb2
  refine GoS.run [3, 4, 34, 35, 36, 50, 51, 52, 53] [.n, .n, .n, .n, .n] _ [iC Try.f13 [1,1,1,1,0,1,0,0,1,1,0,0,1,1,1,1,0,0,1,0], iC Try.f13 uC11, iL Try.f13 uC3, .inBlock 4, .inBlock 3, iC Try.f13 uC2, iL Try.f13 uC0, .inBlock 2, iC Try.f13 uC1] [(3, vn), (4, vw), (34, wv), (35, iN (List.length Z)), (36, iN i), (50, ((List.getD Z i wz).toks)), (51, iN (List.length ((List.getD Z i wz).wd.toks))), (52, iN k), (53, .bool (decide (((k : Nat) : Int) < (((List.length ((List.getD Z i wz).wd.toks)) : Nat) : Int))))] w (by kernel_rfl) .nil ?_
  refine GoS.cond (decide (((k : Nat) : Int) < (((List.length ((List.getD Z i wz).wd.toks)) : Nat) : Int))) [iC Try.f13 [1,1,1,1,0,1,0,0,1,1,0,0,1,1,1,1,0,0,1,0,0], iC Try.f13 uC11, iL Try.f13 uC3, .inBlock 4, .inBlock 3, iC Try.f13 uC2, iL Try.f13 uC0, .inBlock 2, iC Try.f13 uC1] [iC Try.f13 [1,1,1,1,0,1,0,0,1,1,0,0,1,1,1,1,0,0,1,0,1], iC Try.f13 uC11, iL Try.f13 uC3, .inBlock 4, .inBlock 3, iC Try.f13 uC2, iL Try.f13 uC0, .inBlock 2, iC Try.f13 uC1] (by kernel_rfl) (fun h1 => ?_) (fun h1 => ?_)
  ·
   have h1p : ((k : Nat) : Int) < (((List.length ((List.getD Z i wz).wd.toks)) : Nat) : Int) := of_decide_eq_true h1
   refine GoS.run [3, 4, 34, 35, 36, 50, 51, 52] [.n] _ [iC Try.f13 uC11, iL Try.f13 uC3, .inBlock 4, .inBlock 3, iC Try.f13 uC2, iL Try.f13 uC0, .inBlock 2, iC Try.f13 uC1] [(3, vn), (4, vw), (34, wv), (35, iN (List.length Z)), (36, iN i), (50, ((List.getD Z i wz).toks)), (51, iN (List.length ((List.getD Z i wz).wd.toks))), (52, iN k)] w (by kernel_rfl) .nil ?_
   obtain ⟨p3, hp4, hq5⟩ := rd_at (i := ((k : Nat) : Int)) sT64 ((ht (List.getD Z i wz) (getD_mem (by omega))).kept0 hM.kept) k (by omega) (by first | omega | (dsimp only; omega))
   have o15 : (Instr.indexAt 64 (((List.getD Z i wz).toks)) (iN k)).run Try.prog w = .ok (.pointer (some p3)) w := hq5 _ _
   have o16 : (Instr.loadAt 79 (.pointer (some p3))).run Try.prog w = .ok (.agg #[sS ((List.getD ((List.getD Z i wz).wd.toks) k (Tok.mk [] 0)).t), .int .i64 ((List.getD ((List.getD Z i wz).wd.toks) k (Tok.mk [] 0)).a)]) w := r_loads (f := tokc) (l := ((List.getD Z i wz).wd.toks)) aE79 ((ht (List.getD Z i wz) (getD_mem (by omega))).kept0 hM.kept) tokc_len hp4 (by first | omega | (dsimp only; omega)) (Tok.mk [] 0)
   obtain ⟨b6, w7, hr8, hM9⟩ := m_alloc oT79 hM
   have hM10 : Mem [] w0 w7 [⟨79, 2, (obj b6), 1, [sS ([]), .int .i64 0]⟩, ⟨9, 1, vn, (List.length (List.map Nm.name p.nums)), (svals (List.map Nm.name p.nums))⟩, ⟨9, 1, vw, (List.length (List.map (fun z => z.wd.name) (List.take i Z) ++ [(List.getD Z i wz).wd.name])), (svals (List.map (fun z => z.wd.name) (List.take i Z) ++ [(List.getD Z i wz).wd.name]))⟩] := hM9
   obtain ⟨w11, hr12, hM13⟩ := c_stores (ys := [sS ((List.getD ((List.getD Z i wz).wd.toks) k (Tok.mk [] 0)).t), .int .i64 ((List.getD ((List.getD Z i wz).wd.toks) k (Tok.mk [] 0)).a)]) aE79 hM10 0 rfl (cel_obj b6 0) rfl (by decide) (by intro u hu; simp at hu; rcases hu with rfl | rfl <;> first | rfl)
   have hM14 : Mem [] w0 w11 [⟨79, 2, (obj b6), 1, [sS ((List.getD ((List.getD Z i wz).wd.toks) k (Tok.mk [] 0)).t), .int .i64 ((List.getD ((List.getD Z i wz).wd.toks) k (Tok.mk [] 0)).a)]⟩, ⟨9, 1, vn, (List.length (List.map Nm.name p.nums)), (svals (List.map Nm.name p.nums))⟩, ⟨9, 1, vw, (List.length (List.map (fun z => z.wd.name) (List.take i Z) ++ [(List.getD Z i wz).wd.name])), (svals (List.map (fun z => z.wd.name) (List.take i Z) ++ [(List.getD Z i wz).wd.name]))⟩] := hM13
   have o17 : (Instr.storeAt 79 (pq b6) (.agg #[sS ((List.getD ((List.getD Z i wz).wd.toks) k (Tok.mk [] 0)).t), .int .i64 ((List.getD ((List.getD Z i wz).wd.toks) k (Tok.mk [] 0)).a)])).run Try.prog w7 = .ok () w11 ∧ undef = undef := ⟨hr12, rfl⟩
   have o18 : (Instr.loadAt 3 (.pointer (some (⟨b6, 1, none⟩)))).run Try.prog w11 = .ok (.int .i64 ((List.getD ((List.getD Z i wz).wd.toks) k (Tok.mk [] 0)).a)) w11 := c_load pE3 (hM14.rd 0 rfl) (cel_obj b6 1) rfl
   refine GoS.run [3, 4, 10, 34, 35, 36, 50, 51, 52, 61] [.n, .n, .n, .n, .n, .h (.pointer (some p3)), .h (.agg #[sS ((List.getD ((List.getD Z i wz).wd.toks) k (Tok.mk [] 0)).t), .int .i64 ((List.getD ((List.getD Z i wz).wd.toks) k (Tok.mk [] 0)).a)]), .u (pq b6) (w7), .n, .u (undef) (w11), .n, .n, .n, .n, .h (.int .i64 ((List.getD ((List.getD Z i wz).wd.toks) k (Tok.mk [] 0)).a)), .n, .n, .n] _ [.inRegion (cops (csub (cd Try.f13) uC9)) [5,6,7,8,9,10,11,12,13,14], iC Try.f13 uC8, .inBlock 5, iC Try.f13 uC4, iL Try.f13 uC3, .inBlock 4, .inBlock 3, iC Try.f13 uC2, iL Try.f13 uC0, .inBlock 2, iC Try.f13 uC1] [(3, vn), (4, vw), (10, pq b6), (34, wv), (35, iN (List.length Z)), (36, iN i), (50, ((List.getD Z i wz).toks)), (51, iN (List.length ((List.getD Z i wz).wd.toks))), (52, iN k), (61, .bool (((List.getD ((List.getD Z i wz).wd.toks) k (Tok.mk [] 0)).a) != ((k : Nat) : Int)))] w11 (by kernel_rfl) (.cons o15 (.cons o16 (.cons hr8 (.cons o17 (.cons o18 .nil))))) ?_
   refine GoS.fork 61 (((List.getD ((List.getD Z i wz).wd.toks) k (Tok.mk [] 0)).a) != ((k : Nat) : Int)) (by kernel_rfl) (fun h19 => ?_) (fun h19 => ?_)
   ·
    have h19p : ¬ (((List.getD ((List.getD Z i wz).wd.toks) k (Tok.mk [] 0)).a) = ((k : Nat) : Int)) := bne_iff_ne.1 h19
    have hM20 := hM14.sub (sD (sK (sK sR)))
    refine GoS.run [3, 4, 34, 35, 36, 50, 51, 52, 71] [.n, .n, .n, .n, .n, .n, .n, .n, .n, .n] _ [.inRegion (cops (csub (cd Try.f13) uC9)) [], iC Try.f13 uC8, .inBlock 5, iC Try.f13 uC4, iL Try.f13 uC3, .inBlock 4, .inBlock 3, iC Try.f13 uC2, iL Try.f13 uC0, .inBlock 2, iC Try.f13 uC1] [(3, vn), (4, vw), (34, wv), (35, iN (List.length Z)), (36, iN i), (50, ((List.getD Z i wz).toks)), (51, iN (List.length ((List.getD Z i wz).wd.toks))), (52, iN k), (71, .bool true)] w11 (by kernel_rfl) .nil ?_
    have hM28 := hM20.sub (sD (sD sR))
    refine GoS.run [2] [.n, .n, .n, .n, .n, .n] _ [iC Try.f13 uC14, .inBlock 5, iC Try.f13 uC4, iL Try.f13 uC3, .inBlock 4, .inBlock 3, iC Try.f13 uC2, iL Try.f13 uC0, .inBlock 2, iC Try.f13 uC1] [(2, .bool false)] w11 (by kernel_rfl) .nil ?_
    refine GoS.ret (fn := Try.f13) (v := (.bool false)) Try.func13 (by kernel_rfl) ?_
    rw [hR]
    exact ⟨ret_bool (check_words (by rw [hZ]; exact words_no (i := i) (by omega) (by rw [word_of (by omega), ← hT]; exact tokG_at (by omega) (by first | omega | exact h19p | simpa using h19)))).symm, hM28.sub sN⟩
   ·
    have h19p : ((List.getD ((List.getD Z i wz).wd.toks) k (Tok.mk [] 0)).a) = ((k : Nat) : Int) := p_eq h19
    have o21 : (Instr.loadAt 9 (pq b6)).run Try.prog w11 = .ok (sS ((List.getD ((List.getD Z i wz).wd.toks) k (Tok.mk [] 0)).t)) w11 := c_load pE9 (hM14.rd 0 rfl) (cel_obj b6 0) rfl
    have o22 : (binOp .eql 9 (sS ((List.getD ((List.getD Z i wz).wd.toks) k (Tok.mk [] 0)).t)) (sS ([]))).run Try.prog w11 = .ok (.bool (decide (((List.getD ((List.getD Z i wz).wd.toks) k (Tok.mk [] 0)).t) = []))) w11 := f_streq
    refine GoS.run [3, 4, 10, 34, 35, 36, 50, 51, 52, 66] [.n, .h (sS ((List.getD ((List.getD Z i wz).wd.toks) k (Tok.mk [] 0)).t)), .h (.bool (decide (((List.getD ((List.getD Z i wz).wd.toks) k (Tok.mk [] 0)).t) = []))), .n, .n] _ [.inRegion (cops (csub (cd Try.f13) uC9)) [10,11,12,13,14], iC Try.f13 uC8, .inBlock 5, iC Try.f13 uC4, iL Try.f13 uC3, .inBlock 4, .inBlock 3, iC Try.f13 uC2, iL Try.f13 uC0, .inBlock 2, iC Try.f13 uC1] [(3, vn), (4, vw), (10, pq b6), (34, wv), (35, iN (List.length Z)), (36, iN i), (50, ((List.getD Z i wz).toks)), (51, iN (List.length ((List.getD Z i wz).wd.toks))), (52, iN k), (66, .bool (decide (((List.getD ((List.getD Z i wz).wd.toks) k (Tok.mk [] 0)).t) = [])))] w11 (by kernel_rfl) (.cons o21 (.cons o22 .nil)) ?_
    refine GoS.fork 66 (decide (((List.getD ((List.getD Z i wz).wd.toks) k (Tok.mk [] 0)).t) = [])) (by kernel_rfl) (fun h23 => ?_) (fun h23 => ?_)
    ·
     have h23p : ((List.getD ((List.getD Z i wz).wd.toks) k (Tok.mk [] 0)).t) = [] := of_decide_eq_true h23
     have hM24 := hM14.sub (sD (sK (sK sR)))
     refine GoS.run [3, 4, 34, 35, 36, 50, 51, 52, 71] [.n, .n, .n, .n, .n] _ [.inRegion (cops (csub (cd Try.f13) uC9)) [], iC Try.f13 uC8, .inBlock 5, iC Try.f13 uC4, iL Try.f13 uC3, .inBlock 4, .inBlock 3, iC Try.f13 uC2, iL Try.f13 uC0, .inBlock 2, iC Try.f13 uC1] [(3, vn), (4, vw), (34, wv), (35, iN (List.length Z)), (36, iN i), (50, ((List.getD Z i wz).toks)), (51, iN (List.length ((List.getD Z i wz).wd.toks))), (52, iN k), (71, .bool true)] w11 (by kernel_rfl) .nil ?_
     have hM29 := hM24.sub (sD (sD sR))
     refine GoS.run [2] [.n, .n, .n, .n, .n, .n] _ [iC Try.f13 uC14, .inBlock 5, iC Try.f13 uC4, iL Try.f13 uC3, .inBlock 4, .inBlock 3, iC Try.f13 uC2, iL Try.f13 uC0, .inBlock 2, iC Try.f13 uC1] [(2, .bool false)] w11 (by kernel_rfl) .nil ?_
     refine GoS.ret (fn := Try.f13) (v := (.bool false)) Try.func13 (by kernel_rfl) ?_
     rw [hR]
     exact ⟨ret_bool (check_words (by rw [hZ]; exact words_no (i := i) (by omega) (by rw [word_of (by omega), ← hT]; exact tokG_one (by omega) (by rw [h23p]; decide)))).symm, hM29.sub sN⟩
    ·
     have h23p : ¬ (((List.getD ((List.getD Z i wz).wd.toks) k (Tok.mk [] 0)).t) = []) := of_decide_eq_false h23
     have o25 : (Instr.loadAt 9 (pq b6)).run Try.prog w11 = .ok (sS ((List.getD ((List.getD Z i wz).wd.toks) k (Tok.mk [] 0)).t)) w11 := c_load pE9 (hM14.rd 0 rfl) (cel_obj b6 0) rfl
     have o26 : (Builtin.len_ #[9] 3 #[sS ((List.getD ((List.getD Z i wz).wd.toks) k (Tok.mk [] 0)).t)]).run Try.prog w11 = .ok (iN (((List.getD ((List.getD Z i wz).wd.toks) k (Tok.mk [] 0)).t).length)) w11 := f_len (by kernel_rfl)
     have hM27 := hM14.sub (sD (sK (sK sR)))
     refine GoS.run [3, 4, 34, 35, 36, 50, 51, 52, 71] [.n, .h (sS ((List.getD ((List.getD Z i wz).wd.toks) k (Tok.mk [] 0)).t)), .h (iN (((List.getD ((List.getD Z i wz).wd.toks) k (Tok.mk [] 0)).t).length)), .n, .n] _ [.inRegion (cops (csub (cd Try.f13) uC9)) [], iC Try.f13 uC8, .inBlock 5, iC Try.f13 uC4, iL Try.f13 uC3, .inBlock 4, .inBlock 3, iC Try.f13 uC2, iL Try.f13 uC0, .inBlock 2, iC Try.f13 uC1] [(3, vn), (4, vw), (34, wv), (35, iN (List.length Z)), (36, iN i), (50, ((List.getD Z i wz).toks)), (51, iN (List.length ((List.getD Z i wz).wd.toks))), (52, iN k), (71, .bool (decide (((((List.getD ((List.getD Z i wz).wd.toks) k (Tok.mk [] 0)).t).length : Nat) : Int) > 64)))] w11 (by kernel_rfl) (.cons o25 (.cons o26 .nil)) ?_
     refine GoS.run [3, 4, 34, 35, 36, 50, 51, 52, 71] [.n] _ [iC Try.f13 uC8, .inBlock 5, iC Try.f13 uC4, iL Try.f13 uC3, .inBlock 4, .inBlock 3, iC Try.f13 uC2, iL Try.f13 uC0, .inBlock 2, iC Try.f13 uC1] [(3, vn), (4, vw), (34, wv), (35, iN (List.length Z)), (36, iN i), (50, ((List.getD Z i wz).toks)), (51, iN (List.length ((List.getD Z i wz).wd.toks))), (52, iN k), (71, .bool (decide (((((List.getD ((List.getD Z i wz).wd.toks) k (Tok.mk [] 0)).t).length : Nat) : Int) > 64)))] w11 (by kernel_rfl) .nil ?_
     refine GoS.cond (decide (((((List.getD ((List.getD Z i wz).wd.toks) k (Tok.mk [] 0)).t).length : Nat) : Int) > 64)) [iC Try.f13 [1,1,1,1,0,1,0,0,1,1,0,0,1,1,1,1,0,0,1,1,0,0,1,1,0], .inBlock 5, iC Try.f13 uC4, iL Try.f13 uC3, .inBlock 4, .inBlock 3, iC Try.f13 uC2, iL Try.f13 uC0, .inBlock 2, iC Try.f13 uC1] [iC Try.f13 [1,1,1,1,0,1,0,0,1,1,0,0,1,1,1,1,0,0,1,1,0,0,1,1,1], .inBlock 5, iC Try.f13 uC4, iL Try.f13 uC3, .inBlock 4, .inBlock 3, iC Try.f13 uC2, iL Try.f13 uC0, .inBlock 2, iC Try.f13 uC1] (by kernel_rfl) (fun h30 => ?_) (fun h30 => ?_)
     ·
      have h30p : ((((List.getD ((List.getD Z i wz).wd.toks) k (Tok.mk [] 0)).t).length : Nat) : Int) > 64 := of_decide_eq_true h30
      have hM31 := hM27.sub (sD (sD sR))
      refine GoS.run [2] [.n, .n, .n, .n] _ [iC Try.f13 uC14, .inBlock 5, iC Try.f13 uC4, iL Try.f13 uC3, .inBlock 4, .inBlock 3, iC Try.f13 uC2, iL Try.f13 uC0, .inBlock 2, iC Try.f13 uC1] [(2, .bool false)] w11 (by kernel_rfl) .nil ?_
      refine GoS.ret (fn := Try.f13) (v := (.bool false)) Try.func13 (by kernel_rfl) ?_
      rw [hR]
      exact ⟨ret_bool (check_words (by rw [hZ]; exact words_no (i := i) (by omega) (by rw [word_of (by omega), ← hT]; exact tokG_long (by omega) (by omega)))).symm, hM31.sub sN⟩
     ·
      have h30p : ¬ (((((List.getD ((List.getD Z i wz).wd.toks) k (Tok.mk [] 0)).t).length : Nat) : Int) > 64) := of_decide_eq_false h30
      refine GoS.run [3, 4, 34, 35, 36, 50, 51, 52] [.n] _ [.inBlock 5, iC Try.f13 uC4, iL Try.f13 uC3, .inBlock 4, .inBlock 3, iC Try.f13 uC2, iL Try.f13 uC0, .inBlock 2, iC Try.f13 uC1] [(3, vn), (4, vw), (34, wv), (35, iN (List.length Z)), (36, iN i), (50, ((List.getD Z i wz).toks)), (51, iN (List.length ((List.getD Z i wz).wd.toks))), (52, iN k)] w11 (by kernel_rfl) .nil ?_
      have o32 : (binOp .add 3 (iN k) (.int .i64 1)).run Try.prog w11 = .ok (iN (k + 1)) w11 := f_add (by rw [show ((k : Nat) : Int) + 1 = (((k + 1) : Nat) : Int) by omega]; exact IntWalk.i64_in _ (by omega))
      refine GoS.run [3, 4, 34, 35, 36, 50, 51, 52] [.n, .n, .h (iN (k + 1)), .n, .n, .n] _ [iC Try.f13 uC3, iL Try.f13 uC3, .inBlock 4, .inBlock 3, iC Try.f13 uC2, iL Try.f13 uC0, .inBlock 2, iC Try.f13 uC1] [(3, vn), (4, vw), (34, wv), (35, iN (List.length Z)), (36, iN i), (50, ((List.getD Z i wz).toks)), (51, iN (List.length ((List.getD Z i wz).wd.toks))), (52, iN (k + 1))] w11 (by kernel_rfl) (.cons o32 .nil) ?_
      exact ih (k + 1) _ out (by omega) ((tokG_on (by omega) (by first | omega | exact h19p | simpa using h19) (Nat.pos_of_ne_zero (fun z => h23p (List.eq_nil_of_length_eq_zero z))) (by omega)).symm.trans hT) (hM27.sub (sK (sK sN))) (by omega)
  ·
   have h1p : ¬ (((k : Nat) : Int) < (((List.length ((List.getD Z i wz).wd.toks)) : Nat) : Int)) := of_decide_eq_false h1
   have o2 : (binOp .add 3 (iN i) (.int .i64 1)).run Try.prog w = .ok (iN (i + 1)) w := f_add (by rw [show ((i : Nat) : Int) + 1 = (((i + 1) : Nat) : Int) by omega]; exact IntWalk.i64_in _ (by omega))
   refine GoS.run [3, 4, 34, 35, 36] [.n, .n, .n, .h (iN (i + 1)), .n, .n, .n] _ [iC Try.f13 uC0, iL Try.f13 uC0, .inBlock 2, iC Try.f13 uC1] [(3, vn), (4, vw), (34, wv), (35, iN (List.length Z)), (36, iN (i + 1))] w (by kernel_rfl) (.cons o2 .nil) ?_
   exact out _ (hM.sub (sK (sK sN))) (by rw [word_of (by omega), ← hT]; exact tokG_all (by omega))

set_option maxHeartbeats 1000000 in
theorem check_L2 {w0 : World} (p : Pc) (nv wv : Value) (hn : Rd w0 2 nv p.nums.length (recs nmC p.nums)) (Z : List WZ) (hZ : p.words = Z.map WZ.wd) (hz : Rd w0 2 wv Z.length (recs wzC Z)) (ht : ∀ z ∈ Z, Rd w0 2 z.toks z.wd.toks.length (recs tokc z.wd.toks)) (hb1 : p.nums.length ≤ 6000000000000) (hb2 : p.words.length ≤ 6000000000000) (hk : 1 ≤ p.key.length ∧ p.key.length ≤ 32) (R : Ending → World → Prop) (hR : R = (fun e w' => e = .returned (.bool (checkP p)) ∧ Mem [] w0 w' [])) : ∀ (N : Nat) (vn vw : Value) (i : Nat) (w : World) (hi : i ≤ Z.length) (hG : ((Z.take i).map WZ.wd).all wordG = true) (hM : Mem [] w0 w [⟨9, 1, vn, (List.length (List.map Nm.name p.nums)), (svals (List.map Nm.name p.nums))⟩, ⟨9, 1, vw, (List.length (List.map (fun z => z.wd.name) (List.take i Z))), (svals (List.map (fun z => z.wd.name) (List.take i Z)))⟩]) (hN : Z.length - i < N), GoS Try.prog 13 R 80 [iC Try.f13 uC0, iL Try.f13 uC0, .inBlock 2, iC Try.f13 uC1] [(3, vn), (4, vw), (34, wv), (35, iN (List.length Z)), (36, iN i)] w := by
 intro N
 induction N with
 | zero => intro vn vw i w hi hG hM hN; exact absurd hN (Nat.not_lt_zero _)
 | succ N ih =>
  intro vn vw i w hi hG hM hN
  have hl1 := rd_len hn
  have hl2 := rd_len hz
  simp only [maxLen] at hl1 hl2
  have hb3 : Z.length ≤ 6000000000000 := by rw [hZ, List.length_map] at hb2; exact hb2
  refine GoS.run [3, 4, 34, 35, 36, 37] [.n, .n, .n, .n, .n] _ [iC Try.f13 [1,1,1,1,0,1,0,0,1,0], iC Try.f13 uC12, iL Try.f13 uC0, .inBlock 2, iC Try.f13 uC1] [(3, vn), (4, vw), (34, wv), (35, iN (List.length Z)), (36, iN i), (37, .bool (decide (((i : Nat) : Int) < (((List.length Z) : Nat) : Int))))] w (by kernel_rfl) .nil ?_
  refine GoS.cond (decide (((i : Nat) : Int) < (((List.length Z) : Nat) : Int))) [iC Try.f13 [1,1,1,1,0,1,0,0,1,0,0], iC Try.f13 uC12, iL Try.f13 uC0, .inBlock 2, iC Try.f13 uC1] [iC Try.f13 [1,1,1,1,0,1,0,0,1,0,1], iC Try.f13 uC12, iL Try.f13 uC0, .inBlock 2, iC Try.f13 uC1] (by kernel_rfl) (fun h1 => ?_) (fun h1 => ?_)
  ·
   have h1p : ((i : Nat) : Int) < (((List.length Z) : Nat) : Int) := of_decide_eq_true h1
   refine GoS.run [3, 4, 34, 35, 36] [.n] _ [iC Try.f13 uC12, iL Try.f13 uC0, .inBlock 2, iC Try.f13 uC1] [(3, vn), (4, vw), (34, wv), (35, iN (List.length Z)), (36, iN i)] w (by kernel_rfl) .nil ?_
   obtain ⟨p12, hp13, hq14⟩ := rd_at (i := ((i : Nat) : Int)) sT27 (hz.kept0 hM.kept) i (by omega) (by first | omega | (dsimp only; omega))
   have o33 : (Instr.indexAt 27 (wv) (iN i)).run Try.prog w = .ok (.pointer (some p12)) w := hq14 _ _
   have o34 : (Instr.loadAt 68 (.pointer (some p12))).run Try.prog w = .ok (.agg #[sS ((List.getD Z i wz).wd.name), ((List.getD Z i wz).toks)]) w := r_loads (f := wzC) (l := Z) aE68 (hz.kept0 hM.kept) wzC_len hp13 (by first | omega | (dsimp only; omega)) wz
   obtain ⟨b15, w16, hr17, hM18⟩ := m_alloc oT68 hM
   have hM19 : Mem [] w0 w16 [⟨68, 2, (obj b15), 1, [sS ([]), .slice none 0 0]⟩, ⟨9, 1, vn, (List.length (List.map Nm.name p.nums)), (svals (List.map Nm.name p.nums))⟩, ⟨9, 1, vw, (List.length (List.map (fun z => z.wd.name) (List.take i Z))), (svals (List.map (fun z => z.wd.name) (List.take i Z)))⟩] := hM18
   obtain ⟨w20, hr21, hM22⟩ := c_stores (ys := [sS ((List.getD Z i wz).wd.name), ((List.getD Z i wz).toks)]) aE68 hM19 0 rfl (cel_obj b15 0) rfl (by decide) (by intro u hu; simp at hu; rcases hu with rfl | rfl <;> first | rfl | exact (rd_one ((ht (List.getD Z i wz) (getD_mem (by omega))).kept0 hM19.kept)))
   have hM23 : Mem [] w0 w20 [⟨68, 2, (obj b15), 1, [sS ((List.getD Z i wz).wd.name), ((List.getD Z i wz).toks)]⟩, ⟨9, 1, vn, (List.length (List.map Nm.name p.nums)), (svals (List.map Nm.name p.nums))⟩, ⟨9, 1, vw, (List.length (List.map (fun z => z.wd.name) (List.take i Z))), (svals (List.map (fun z => z.wd.name) (List.take i Z)))⟩] := hM22
   have o35 : (Instr.storeAt 68 (pq b15) (.agg #[sS ((List.getD Z i wz).wd.name), ((List.getD Z i wz).toks)])).run Try.prog w16 = .ok () w20 ∧ undef = undef := ⟨hr21, rfl⟩
   have o36 : (Instr.loadAt 9 (pq b15)).run Try.prog w20 = .ok (sS ((List.getD Z i wz).wd.name)) w20 := c_load pE9 (hM23.rd 0 rfl) (cel_obj b15 0) rfl
   obtain ⟨v24, w25, hr26, hM27⟩ := m_lit sT55 hM23 (n := 1) (parts := #[(0, sS ((List.getD Z i wz).wd.name))]) (cs := [sS ((List.getD Z i wz).wd.name)]) (by decide) (by kernel_rfl) rfl
   obtain ⟨v28, w29, hr30, hM31⟩ := m_append sT55 hM27 3 rfl (hM27.rd 0 rfl) (by intro u hu; simp at hu; rcases hu with rfl <;> rfl) (by first | omega | ((try dsimp only); simp only [List.length_map, List.length_take]; omega)) (by first | omega | ((try dsimp only); simp only [List.length_map, List.length_take]; omega)) 55
   have hM32 : Mem [] w0 w29 [⟨9, 1, v24, 1, [sS ((List.getD Z i wz).wd.name)]⟩, ⟨68, 2, (obj b15), 1, [sS ((List.getD Z i wz).wd.name), ((List.getD Z i wz).toks)]⟩, ⟨9, 1, vn, (List.length (List.map Nm.name p.nums)), (svals (List.map Nm.name p.nums))⟩, ⟨9, 1, v28, (List.length ((List.map (fun z => z.wd.name) (List.take i Z)) ++ ([((List.getD Z i wz).wd.name)] : List (List UInt8)))), (svals ((List.map (fun z => z.wd.name) (List.take i Z)) ++ ([((List.getD Z i wz).wd.name)] : List (List UInt8))))⟩] := hM31.cast (by first | (simp [ivals, svals, bvals, nvals, u8s, Nat.add_assoc]; done) | (simp [ivals, svals, bvals, nvals, u8s, Nat.add_assoc]; omega))
   have o37 : (Instr.loadAt 64 (.pointer (some (⟨b15, 1, none⟩)))).run Try.prog w29 = .ok (((List.getD Z i wz).toks)) w29 := c_load pE64 (hM32.rd 1 rfl) (cel_obj b15 1) rfl
   have o38 : (Builtin.len_ #[64] 3 #[((List.getD Z i wz).toks)]).run Try.prog w29 = .ok (iN (List.length (List.getD Z i wz).wd.toks)) w29 := f_slen sT64 ((ht (List.getD Z i wz) (getD_mem (by omega))).kept0 hM32.kept) 3 _
   have hM39 := hM32.sub (sD (sK (sK (sK sR))))
   refine GoS.run [3, 4, 8, 34, 35, 36, 48] [.n, .n, .n, .n, .h (.pointer (some p12)), .h (.agg #[sS ((List.getD Z i wz).wd.name), ((List.getD Z i wz).toks)]), .u (pq b15) (w16), .u (undef) (w20), .n, .n, .n, .n, .n, .h (sS ((List.getD Z i wz).wd.name)), .u (v24) (w25), .u (v28) (w29), .n, .n, .n, .n, .n, .n, .h (((List.getD Z i wz).toks)), .h (iN (List.length (List.getD Z i wz).wd.toks)), .n, .n] _ [iC Try.f13 [1,1,1,1,0,1,0,0,1,1,0,0,1,1,0,1], iC Try.f13 uC10, .inBlock 3, iC Try.f13 uC2, iL Try.f13 uC0, .inBlock 2, iC Try.f13 uC1] [(3, vn), (4, v28), (8, pq b15), (34, wv), (35, iN (List.length Z)), (36, iN i), (48, .bool (decide ((((List.length (List.getD Z i wz).wd.toks) : Nat) : Int) > 4096)))] w29 (by kernel_rfl) (.cons o33 (.cons o34 (.cons hr17 (.cons o35 (.cons o36 (.cons hr26 (.cons hr30 (.cons o37 (.cons o38 .nil))))))))) ?_
   refine GoS.cond (decide ((((List.length (List.getD Z i wz).wd.toks) : Nat) : Int) > 4096)) [iC Try.f13 [1,1,1,1,0,1,0,0,1,1,0,0,1,1,0,1,0], iC Try.f13 uC10, .inBlock 3, iC Try.f13 uC2, iL Try.f13 uC0, .inBlock 2, iC Try.f13 uC1] [iC Try.f13 [1,1,1,1,0,1,0,0,1,1,0,0,1,1,0,1,1], iC Try.f13 uC10, .inBlock 3, iC Try.f13 uC2, iL Try.f13 uC0, .inBlock 2, iC Try.f13 uC1] (by kernel_rfl) (fun h40 => ?_) (fun h40 => ?_)
   ·
    have h40p : (((List.length (List.getD Z i wz).wd.toks) : Nat) : Int) > 4096 := of_decide_eq_true h40
    have hM41 := hM39.sub (sD (sD (sD sR)))
    refine GoS.run [2] [.n, .n, .n, .n] _ [iC Try.f13 [1,1,1,1,0,1,0,0,1,1,0,0,1,1,0,1,0,1], iC Try.f13 uC10, .inBlock 3, iC Try.f13 uC2, iL Try.f13 uC0, .inBlock 2, iC Try.f13 uC1] [(2, .bool false)] w29 (by kernel_rfl) .nil ?_
    refine GoS.ret (fn := Try.f13) (v := (.bool false)) Try.func13 (by kernel_rfl) ?_
    rw [hR]
    exact ⟨ret_bool (check_words (by rw [hZ]; exact words_no (i := i) (by omega) (word_long (by omega)))).symm, hM41.sub sN⟩
   ·
    have h40p : ¬ ((((List.length (List.getD Z i wz).wd.toks) : Nat) : Int) > 4096) := of_decide_eq_false h40
    refine GoS.run [3, 4, 8, 34, 35, 36] [.n] _ [iC Try.f13 uC10, .inBlock 3, iC Try.f13 uC2, iL Try.f13 uC0, .inBlock 2, iC Try.f13 uC1] [(3, vn), (4, v28), (8, pq b15), (34, wv), (35, iN (List.length Z)), (36, iN i)] w29 (by kernel_rfl) .nil ?_
    have o42 : (Instr.loadAt 64 (.pointer (some (⟨b15, 1, none⟩)))).run Try.prog w29 = .ok (((List.getD Z i wz).toks)) w29 := c_load pE64 (hM39.rd 0 rfl) (cel_obj b15 1) rfl
    have o43 : (Builtin.len_ #[64] 3 #[((List.getD Z i wz).toks)]).run Try.prog w29 = .ok (iN (List.length (List.getD Z i wz).wd.toks)) w29 := f_slen sT64 ((ht (List.getD Z i wz) (getD_mem (by omega))).kept0 hM39.kept) 3 _
    have hM44 := hM39.sub (sD (sK (sK sR)))
    refine GoS.run [3, 4, 34, 35, 36, 50, 51, 52] [.n, .n, .n, .h (((List.getD Z i wz).toks)), .h (iN (List.length (List.getD Z i wz).wd.toks)), .n, .n, .n, .n] _ [iC Try.f13 uC3, iL Try.f13 uC3, .inBlock 4, .inBlock 3, iC Try.f13 uC2, iL Try.f13 uC0, .inBlock 2, iC Try.f13 uC1] [(3, vn), (4, v28), (34, wv), (35, iN (List.length Z)), (36, iN i), (50, ((List.getD Z i wz).toks)), (51, iN (List.length (List.getD Z i wz).wd.toks)), (52, .int .i64 0)] w29 (by kernel_rfl) (.cons o42 (.cons o43 .nil)) ?_
    exact check_L3 p nv wv hn Z hZ hz ht hb1 hb2 hk vn v28 i (by omega) (by omega) R hR (((List.getD Z i wz).wd.toks).length + 1) 0 w29 (fun w_ hM_ hw_ => ih vn v28 (i + 1) w_ (by omega) (words_on (by omega) hG hw_) (hM_.cast (by rw [take_snoc' wz (by omega), List.map_append]; rfl)) (by omega)) (Nat.zero_le _) rfl (hM44.sub (sK (sK sN))) (by omega)
  ·
   have h1p : ¬ (((i : Nat) : Int) < (((List.length Z) : Nat) : Int)) := of_decide_eq_false h1
   refine GoS.run [4, 74] [.n, .n, .n, .n] _ [.inRegion (cops (csub (cd Try.f13) uC7)) [1,2,3,4,5,6], iC Try.f13 uC6] [(4, vw), (74, vn)] w (by kernel_rfl) .nil ?_
   refine GoS.call [4] 38 #[vn] (some 75) [.inRegion (cops (csub (cd Try.f13) uC7)) [2,3,4,5,6], iC Try.f13 uC6] [(4, vw)] (by kernel_rfl) (names_c vn (List.map Nm.name p.nums) (hM.rd 0 rfl)) ?_
   rintro _ w2 ⟨rfl, m3⟩
   refine ⟨_, rfl, ?_⟩
   have hM4 : Mem [] w0 w2 [⟨9, 1, vn, (List.length (List.map Nm.name p.nums)), (svals (List.map Nm.name p.nums))⟩, ⟨9, 1, vw, (List.length (List.map (fun z => z.wd.name) (List.take i Z))), (svals (List.map (fun z => z.wd.name) (List.take i Z)))⟩] := Mem.join (R := []) hM m3
   have hM5 := hM4.sub (sD (sK sR))
   refine GoS.run [4, 76] [.n] _ [.inRegion (cops (csub (cd Try.f13) uC7)) [3,4,5,6], iC Try.f13 uC6] [(4, vw), (76, .bool (namesP (List.map Nm.name p.nums)))] w2 (by kernel_rfl) .nil ?_
   refine GoS.fork 76 (namesP (List.map Nm.name p.nums)) (by kernel_rfl) (fun h6 => ?_) (fun h6 => ?_)
   ·
    refine GoS.run [76, 77] [.n] _ [.inRegion (cops (csub (cd Try.f13) uC7)) [4,5,6], iC Try.f13 uC6] [(76, .bool true), (77, vw)] w2 (by kernel_rfl) .nil ?_
    refine GoS.call [76] 38 #[vw] (some 78) [.inRegion (cops (csub (cd Try.f13) uC7)) [5,6], iC Try.f13 uC6] [(76, .bool true)] (by kernel_rfl) (names_c vw (List.map (fun z => z.wd.name) (List.take i Z)) (hM5.rd 0 rfl)) ?_
    rintro _ w7 ⟨rfl, m8⟩
    refine ⟨_, rfl, ?_⟩
    have hM9 : Mem [] w0 w7 [⟨9, 1, vw, (List.length (List.map (fun z => z.wd.name) (List.take i Z))), (svals (List.map (fun z => z.wd.name) (List.take i Z)))⟩] := Mem.join (R := []) hM5 m8
    have hM10 := hM9.sub (sD sR)
    refine GoS.run [2] [.n, .n] _ [.inRegion (cops (csub (cd Try.f13) uC7)) [], iC Try.f13 uC6] [(2, .bool (namesP (List.map (fun z => z.wd.name) (List.take i Z))))] w7 (by kernel_rfl) .nil ?_
    refine GoS.run [2] [.n] _ [iC Try.f13 uC6] [(2, .bool (namesP (List.map (fun z => z.wd.name) (List.take i Z))))] w7 (by kernel_rfl) .nil ?_
    refine GoS.ret (fn := Try.f13) (v := (.bool (namesP (List.map (fun z => z.wd.name) (List.take i Z))))) Try.func13 (by kernel_rfl) ?_
    rw [hR]
    have e1 : p.words.all wordG = true := by rw [hZ]; rw [take_all' (by omega)] at hG; exact hG
    have e2 : p.words.map Wd.name = List.map (fun z => z.wd.name) Z := by rw [hZ, List.map_map]; rfl
    exact ⟨ret_bool (by rw [check_rest hk e1, h6, e2, take_all' (by omega)]; rfl), hM10.sub sN⟩
   ·
    have hM11 := hM5.sub (sD sR)
    refine GoS.run [2] [.n, .n, .n, .n] _ [.inRegion (cops (csub (cd Try.f13) uC7)) [], iC Try.f13 uC6] [(2, .bool false)] w2 (by kernel_rfl) .nil ?_
    refine GoS.run [2] [.n] _ [iC Try.f13 uC6] [(2, .bool false)] w2 (by kernel_rfl) .nil ?_
    refine GoS.ret (fn := Try.f13) (v := (.bool false)) Try.func13 (by kernel_rfl) ?_
    rw [hR]
    have e1 : p.words.all wordG = true := by rw [hZ]; rw [take_all' (by omega)] at hG; exact hG
    have e2 : p.words.map Wd.name = List.map (fun z => z.wd.name) Z := by rw [hZ, List.map_map]; rfl
    exact ⟨ret_bool (by rw [check_rest hk e1, h6]; rfl), hM11.sub sN⟩

set_option maxHeartbeats 1000000 in
theorem check_L1 {w0 : World} (p : Pc) (nv wv : Value) (hn : Rd w0 2 nv p.nums.length (recs nmC p.nums)) (Z : List WZ) (hZ : p.words = Z.map WZ.wd) (hz : Rd w0 2 wv Z.length (recs wzC Z)) (ht : ∀ z ∈ Z, Rd w0 2 z.toks z.wd.toks.length (recs tokc z.wd.toks)) (hb1 : p.nums.length ≤ 6000000000000) (hb2 : p.words.length ≤ 6000000000000) (hk : 1 ≤ p.key.length ∧ p.key.length ≤ 32) (R : Ending → World → Prop) (hR : R = (fun e w' => e = .returned (.bool (checkP p)) ∧ Mem [] w0 w' [])) : ∀ (N : Nat) (b : Nat) (vn : Value) (i : Nat) (w : World) (hi : i ≤ p.nums.length) (hM : Mem [] w0 w [⟨9, 1, vn, (List.length (List.map Nm.name (List.take i p.nums))), (svals (List.map Nm.name (List.take i p.nums)))⟩, ⟨29, 3, (obj b), 1, [sS (p.key), nv, wv]⟩]) (hN : p.nums.length - i < N), GoS Try.prog 13 R 80 [iC Try.f13 uC5, iL Try.f13 uC5, .inBlock 0, iC Try.f13 [1,1,1,1]] [(1, pq b), (3, vn), (4, .slice none 0 0), (21, nv), (22, iN (List.length p.nums)), (23, iN i)] w := by
 intro N
 induction N with
 | zero => intro b vn i w hi hM hN; exact absurd hN (Nat.not_lt_zero _)
 | succ N ih =>
  intro b vn i w hi hM hN
  have hl1 := rd_len hn
  have hl2 := rd_len hz
  simp only [maxLen] at hl1 hl2
  have hb3 : Z.length ≤ 6000000000000 := by rw [hZ, List.length_map] at hb2; exact hb2
  refine GoS.run [1, 3, 4, 21, 22, 23, 24] [.n, .n, .n, .n, .n] _ [iC Try.f13 [1,1,1,0,1,0,0,1,0], iC Try.f13 uC13, iL Try.f13 uC5, .inBlock 0, iC Try.f13 [1,1,1,1]] [(1, pq b), (3, vn), (4, .slice none 0 0), (21, nv), (22, iN (List.length p.nums)), (23, iN i), (24, .bool (decide (((i : Nat) : Int) < (((List.length p.nums) : Nat) : Int))))] w (by kernel_rfl) .nil ?_
  refine GoS.cond (decide (((i : Nat) : Int) < (((List.length p.nums) : Nat) : Int))) [iC Try.f13 [1,1,1,0,1,0,0,1,0,0], iC Try.f13 uC13, iL Try.f13 uC5, .inBlock 0, iC Try.f13 [1,1,1,1]] [iC Try.f13 [1,1,1,0,1,0,0,1,0,1], iC Try.f13 uC13, iL Try.f13 uC5, .inBlock 0, iC Try.f13 [1,1,1,1]] (by kernel_rfl) (fun h1 => ?_) (fun h1 => ?_)
  ·
   have h1p : ((i : Nat) : Int) < (((List.length p.nums) : Nat) : Int) := of_decide_eq_true h1
   refine GoS.run [1, 3, 4, 21, 22, 23] [.n] _ [iC Try.f13 uC13, iL Try.f13 uC5, .inBlock 0, iC Try.f13 [1,1,1,1]] [(1, pq b), (3, vn), (4, .slice none 0 0), (21, nv), (22, iN (List.length p.nums)), (23, iN i)] w (by kernel_rfl) .nil ?_
   obtain ⟨p7, hp8, hq9⟩ := rd_at (i := ((i : Nat) : Int)) sT23 (hn.kept0 hM.kept) i (by omega) (by first | omega | (dsimp only; omega))
   have o28 : (Instr.indexAt 23 (nv) (iN i)).run Try.prog w = .ok (.pointer (some p7)) w := hq9 _ _
   have o29 : (Instr.loadAt 60 (.pointer (some p7))).run Try.prog w = .ok (.agg #[sS ((List.getD (p.nums) i nz).name), .int .u64 ((List.getD (p.nums) i nz).bits)]) w := r_loads (f := nmC) (l := (p.nums)) aE60 (hn.kept0 hM.kept) nmC_len hp8 (by first | omega | (dsimp only; omega)) nz
   obtain ⟨b10, w11, hr12, hM13⟩ := m_alloc oT60 hM
   have hM14 : Mem [] w0 w11 [⟨60, 2, (obj b10), 1, [sS ([]), .int .u64 0]⟩, ⟨9, 1, vn, (List.length (List.map Nm.name (List.take i p.nums))), (svals (List.map Nm.name (List.take i p.nums)))⟩, ⟨29, 3, (obj b), 1, [sS (p.key), nv, wv]⟩] := hM13
   obtain ⟨w15, hr16, hM17⟩ := c_stores (ys := [sS ((List.getD (p.nums) i nz).name), .int .u64 ((List.getD (p.nums) i nz).bits)]) aE60 hM14 0 rfl (cel_obj b10 0) rfl (by decide) (by intro u hu; simp at hu; rcases hu with rfl | rfl <;> first | rfl)
   have hM18 : Mem [] w0 w15 [⟨60, 2, (obj b10), 1, [sS ((List.getD (p.nums) i nz).name), .int .u64 ((List.getD (p.nums) i nz).bits)]⟩, ⟨9, 1, vn, (List.length (List.map Nm.name (List.take i p.nums))), (svals (List.map Nm.name (List.take i p.nums)))⟩, ⟨29, 3, (obj b), 1, [sS (p.key), nv, wv]⟩] := hM17
   have o30 : (Instr.storeAt 60 (pq b10) (.agg #[sS ((List.getD (p.nums) i nz).name), .int .u64 ((List.getD (p.nums) i nz).bits)])).run Try.prog w11 = .ok () w15 ∧ undef = undef := ⟨hr16, rfl⟩
   have o31 : (Instr.loadAt 9 (pq b10)).run Try.prog w15 = .ok (sS ((List.getD (p.nums) i nz).name)) w15 := c_load pE9 (hM18.rd 0 rfl) (cel_obj b10 0) rfl
   obtain ⟨v19, w20, hr21, hM22⟩ := m_lit sT55 hM18 (n := 1) (parts := #[(0, sS ((List.getD (p.nums) i nz).name))]) (cs := [sS ((List.getD (p.nums) i nz).name)]) (by decide) (by kernel_rfl) rfl
   obtain ⟨v23, w24, hr25, hM26⟩ := m_append sT55 hM22 2 rfl (hM22.rd 0 rfl) (by intro u hu; simp at hu; rcases hu with rfl <;> rfl) (by first | omega | ((try dsimp only); simp only [List.length_map, List.length_take]; omega)) (by first | omega | ((try dsimp only); simp only [List.length_map, List.length_take]; omega)) 55
   have hM27 : Mem [] w0 w24 [⟨9, 1, v19, 1, [sS ((List.getD (p.nums) i nz).name)]⟩, ⟨60, 2, (obj b10), 1, [sS ((List.getD (p.nums) i nz).name), .int .u64 ((List.getD (p.nums) i nz).bits)]⟩, ⟨9, 1, v23, (List.length ((List.map Nm.name (List.take i p.nums)) ++ ([((List.getD (p.nums) i nz).name)] : List (List UInt8)))), (svals ((List.map Nm.name (List.take i p.nums)) ++ ([((List.getD (p.nums) i nz).name)] : List (List UInt8))))⟩, ⟨29, 3, (obj b), 1, [sS (p.key), nv, wv]⟩] := hM26.cast (by first | (simp [ivals, svals, bvals, nvals, u8s, Nat.add_assoc]; done) | (simp [ivals, svals, bvals, nvals, u8s, Nat.add_assoc]; omega))
   have o32 : (binOp .add 3 (iN i) (.int .i64 1)).run Try.prog w24 = .ok (iN (i + 1)) w24 := f_add (by rw [show ((i : Nat) : Int) + 1 = (((i + 1) : Nat) : Int) by omega]; exact IntWalk.i64_in _ (by omega))
   have hM33 := hM27.sub (sD (sD (sK (sK sR))))
   refine GoS.run [1, 3, 4, 21, 22, 23] [.n, .n, .n, .n, .h (.pointer (some p7)), .h (.agg #[sS ((List.getD (p.nums) i nz).name), .int .u64 ((List.getD (p.nums) i nz).bits)]), .u (pq b10) (w11), .u (undef) (w15), .n, .n, .n, .n, .h (sS ((List.getD (p.nums) i nz).name)), .u (v19) (w20), .u (v23) (w24), .n, .n, .n, .n, .h (iN (i + 1)), .n, .n, .n] _ [iC Try.f13 uC5, iL Try.f13 uC5, .inBlock 0, iC Try.f13 [1,1,1,1]] [(1, pq b), (3, v23), (4, .slice none 0 0), (21, nv), (22, iN (List.length p.nums)), (23, iN (i + 1))] w24 (by kernel_rfl) (.cons o28 (.cons o29 (.cons hr12 (.cons o30 (.cons o31 (.cons hr21 (.cons hr25 (.cons o32 .nil)))))))) ?_
   exact ih b v23 (i + 1) _ (by omega) ((hM33.sub (sK (sK sN))).cast (by rw [take_snoc' nz (by omega), List.map_append]; rfl)) (by omega)
  ·
   have h1p : ¬ (((i : Nat) : Int) < (((List.length p.nums) : Nat) : Int)) := of_decide_eq_false h1
   have o2 : (Instr.loadAt 27 (.pointer (some (⟨b, 2, none⟩)))).run Try.prog w = .ok (wv) w := c_load pE27 (hM.rd 1 rfl) (cel_obj b 2) rfl
   have o3 : (Builtin.len_ #[27] 3 #[wv]).run Try.prog w = .ok (iN (List.length Z)) w := f_slen sT27 (hz.kept0 hM.kept) 3 _
   have hM4 := hM.sub (sK (sD sR))
   refine GoS.run [3, 4, 34, 35, 36] [.n, .n, .n, .n, .n, .h (wv), .h (iN (List.length Z)), .n, .n, .n, .n] _ [iC Try.f13 uC0, iL Try.f13 uC0, .inBlock 2, iC Try.f13 uC1] [(3, vn), (4, .slice none 0 0), (34, wv), (35, iN (List.length Z)), (36, .int .i64 0)] w (by kernel_rfl) (.cons o2 (.cons o3 .nil)) ?_
   have hM5 := hM4.nilrow 9 1
   have hM6 : Mem [] w0 w [⟨9, 1, vn, (List.length (List.map Nm.name (List.take i p.nums))), (svals (List.map Nm.name (List.take i p.nums)))⟩, ⟨9, 1, (.slice none 0 0), 0, []⟩] := hM5.perm (pS pR)
   exact check_L2 p nv wv hn Z hZ hz ht hb1 hb2 hk R hR (Z.length + 1) vn (.slice none 0 0) 0 w (Nat.zero_le _) rfl ((hM6.sub (sK (sK sN))).cast (by rw [take_all' (by omega)]; rfl)) (by omega)

set_option maxHeartbeats 400000 in
theorem check_c {w : World} (p : Pc) (nv wv : Value) (hp : RdP w p nv wv) (hb1 : p.nums.length ≤ 6000000000000) (hb2 : p.words.length ≤ 6000000000000) :
  Calls Try.prog 13 #[.agg #[sS (p.key), nv, wv]] w (fun e w' => e = .returned (.bool (checkP p)) ∧ Mem [] w w' []) := by
 obtain ⟨hn, Z, hZ, hz, ht⟩ := hp
 obtain ⟨R, hR⟩ : ∃ R : Ending → World → Prop, R = (fun e w' => e = .returned (.bool (checkP p)) ∧ Mem [] w w' []) := ⟨_, rfl⟩
 rw [← hR]
 refine GoS.enter (n := 80) Try.func13 (by kernel_rfl) rfl [(0, .agg #[sS (p.key), nv, wv])] (by kernel_rfl) (by kernel_rfl) ?_
 have hM0 := Mem.start w
 obtain ⟨b1, w2, hr3, hM4⟩ := m_box (T := 29) (k := 3) (u := .agg #[sS (p.key), nv, wv]) rfl rfl hM0
 have hM5 : Mem [] w w2 [⟨29, 3, (obj b1), 1, [sS (p.key), nv, wv]⟩] := hM4
 have o6 : (Instr.box 29 (.agg #[sS (p.key), nv, wv])).run Try.prog w = .ok (pq b1) w2 := hr3
 have o7 : (Instr.loadAt 9 (pq b1)).run Try.prog w2 = .ok (sS (p.key)) w2 := c_load pE9 (hM5.rd 0 rfl) (cel_obj b1 0) rfl
 have o8 : (binOp .eql 9 (sS (p.key)) (sS ([]))).run Try.prog w2 = .ok (.bool (decide (p.key = []))) w2 := f_streq
 refine GoS.run [1, 14] [.n, .n, .u (pq b1) (w2), .n, .n, .n, .n, .n, .n, .h (sS (p.key)), .h (.bool (decide (p.key = []))), .n] _ [.inRegion (cops (csub (cd Try.f13) [1,0,0])) [4,5,6,7,8], iC Try.f13 [1,0,1], iC Try.f13 [1,1]] [(1, pq b1), (14, .bool (decide (p.key = [])))] w2 (by kernel_rfl) (.cons o6 (.cons o7 (.cons o8 .nil))) ?_
 refine GoS.fork 14 (decide (p.key = [])) (by kernel_rfl) (fun h9 => ?_) (fun h9 => ?_)
 ·
  have h9p : p.key = [] := of_decide_eq_true h9
  refine GoS.run [1, 19] [.n, .n, .n, .n, .n] _ [.inRegion (cops (csub (cd Try.f13) [1,0,0])) [], iC Try.f13 [1,0,1], iC Try.f13 [1,1]] [(1, pq b1), (19, .bool true)] w2 (by kernel_rfl) .nil ?_
  have hM12 := hM5.sub (sD sR)
  refine GoS.run [2] [.n, .n, .n, .n, .n, .n] _ [iC Try.f13 [1,0,1,0,1], iC Try.f13 [1,1]] [(2, .bool false)] w2 (by kernel_rfl) .nil ?_
  refine GoS.ret (fn := Try.f13) (v := (.bool false)) Try.func13 (by kernel_rfl) ?_
  rw [hR]
  exact ⟨ret_bool (check_key (by rw [h9p]; decide)).symm, hM12.sub sN⟩
 ·
  have h9p : ¬ (p.key = []) := of_decide_eq_false h9
  have o10 : (Instr.loadAt 9 (pq b1)).run Try.prog w2 = .ok (sS (p.key)) w2 := c_load pE9 (hM5.rd 0 rfl) (cel_obj b1 0) rfl
  have o11 : (Builtin.len_ #[9] 3 #[sS (p.key)]).run Try.prog w2 = .ok (iN ((p.key).length)) w2 := f_len (by kernel_rfl)
  refine GoS.run [1, 19] [.n, .h (sS (p.key)), .h (iN ((p.key).length)), .n, .n] _ [.inRegion (cops (csub (cd Try.f13) [1,0,0])) [], iC Try.f13 [1,0,1], iC Try.f13 [1,1]] [(1, pq b1), (19, .bool (decide ((((p.key).length : Nat) : Int) > 32)))] w2 (by kernel_rfl) (.cons o10 (.cons o11 .nil)) ?_
  refine GoS.run [1, 19] [.n] _ [iC Try.f13 [1,0,1], iC Try.f13 [1,1]] [(1, pq b1), (19, .bool (decide ((((p.key).length : Nat) : Int) > 32)))] w2 (by kernel_rfl) .nil ?_
  refine GoS.cond (decide ((((p.key).length : Nat) : Int) > 32)) [iC Try.f13 [1,0,1,0], iC Try.f13 [1,1]] [iC Try.f13 [1,0,1,1], iC Try.f13 [1,1]] (by kernel_rfl) (fun h13 => ?_) (fun h13 => ?_)
  ·
   have h13p : (((p.key).length : Nat) : Int) > 32 := of_decide_eq_true h13
   have hM14 := hM5.sub (sD sR)
   refine GoS.run [2] [.n, .n, .n, .n] _ [iC Try.f13 [1,0,1,0,1], iC Try.f13 [1,1]] [(2, .bool false)] w2 (by kernel_rfl) .nil ?_
   refine GoS.ret (fn := Try.f13) (v := (.bool false)) Try.func13 (by kernel_rfl) ?_
   rw [hR]
   exact ⟨ret_bool (check_key (by omega)).symm, hM14.sub sN⟩
  ·
   have h13p : ¬ ((((p.key).length : Nat) : Int) > 32) := of_decide_eq_false h13
   refine GoS.run [1] [.n] _ [iC Try.f13 [1,1]] [(1, pq b1)] w2 (by kernel_rfl) .nil ?_
   have o15 : (Instr.loadAt 23 (.pointer (some (⟨b1, 1, none⟩)))).run Try.prog w2 = .ok (nv) w2 := c_load pE23 (hM5.rd 0 rfl) (cel_obj b1 1) rfl
   have o16 : (Builtin.len_ #[23] 3 #[nv]).run Try.prog w2 = .ok (iN (List.length (p.nums))) w2 := f_slen sT23 (hn.kept0 hM5.kept) 3 _
   refine GoS.run [1, 3, 4, 21, 22, 23] [.n, .n, .n, .n, .n, .n, .n, .n, .n, .h (nv), .h (iN (List.length (p.nums))), .n, .n, .n, .n] _ [iC Try.f13 uC5, iL Try.f13 uC5, .inBlock 0, iC Try.f13 [1,1,1,1]] [(1, pq b1), (3, .slice none 0 0), (4, .slice none 0 0), (21, nv), (22, iN (List.length (p.nums))), (23, .int .i64 0)] w2 (by kernel_rfl) (.cons o15 (.cons o16 .nil)) ?_
   have hM17 := hM5.nilrow 9 1
   exact check_L1 p nv wv hn Z hZ hz ht hb1 hb2 ⟨Nat.pos_of_ne_zero (fun z => h9p (List.eq_nil_of_length_eq_zero z)), by omega⟩ R hR (p.nums.length + 1) b1 (.slice none 0 0) 0 w2 (Nat.zero_le _) (hM17.cast (by simp [svals])) (by omega)


theorem pE62 : Plain Try.prog 62 := ⟨.map 9 4, by kernel_rfl, (fun _ h => by cases h), (fun _ _ h => by cases h)⟩


set_option maxHeartbeats 400000 in
theorem fresh_c {w : World} (s : List UInt8) (b B : Nat) (seen : List (List UInt8)) (hbx : Rd w 1 (obj b) 1 [.map (some B)]) (hm : MapIs w B seen) :
  Calls Try.prog 26 #[sS s, pq b] w (fun e w' => e = .returned (.int .i64 (freshE seen s)) ∧ Mem [B] w w' [] ∧ MapIs w' B (if freshE seen s = 0 then seen ++ [s] else seen)) := by
 obtain ⟨R, hR⟩ : ∃ R : Ending → World → Prop, R = (fun e w' => e = .returned (.int .i64 (freshE seen s)) ∧ Mem [B] w w' [] ∧ MapIs w' B (if freshE seen s = 0 then seen ++ [s] else seen)) := ⟨_, rfl⟩
 rw [← hR]
 refine GoS.enter (n := 14) Try.func26 (by kernel_rfl) rfl [(0, sS s), (1, pq b)] (by kernel_rfl) (by kernel_rfl) ?_
 have hM0 := Mem.start w
 refine GoS.run [0, 1, 5] [.n, .n, .n, .n, .n, .n, .n, .n, .n] _ [.inRegion (cops (csub (cd Try.f26) [1,0,0,0])) [1,2,3], iC Try.f26 [1,0,0,1], .inBlock 0, iC Try.f26 [1,1]] [(0, sS s), (1, pq b), (5, sS s)] w (by kernel_rfl) .nil ?_
 refine GoS.call [0, 1] 27 #[sS s] (some 6) [.inRegion (cops (csub (cd Try.f26) [1,0,0,0])) [2,3], iC Try.f26 [1,0,0,1], .inBlock 0, iC Try.f26 [1,1]] [(0, sS s), (1, pq b)] (by kernel_rfl) (name_c s w) ?_
 rintro _ _ ⟨rfl, rfl⟩
 refine ⟨_, rfl, ?_⟩
 refine GoS.run [0, 1, 4] [.n, .n, .n] _ [iC Try.f26 [1,0,0,1], .inBlock 0, iC Try.f26 [1,1]] [(0, sS s), (1, pq b), (4, .bool (!(nameP s)))] w (by kernel_rfl) .nil ?_
 refine GoS.cond (!(nameP s)) [iC Try.f26 [1,0,0,1,0], .inBlock 0, iC Try.f26 [1,1]] [iC Try.f26 [1,0,0,1,1], .inBlock 0, iC Try.f26 [1,1]] (by kernel_rfl) (fun h1 => ?_) (fun h1 => ?_)
 ·
  refine GoS.run [3] [.n, .n, .n, .n] _ [iC Try.f26 [1,0,0,1,0,1], .inBlock 0, iC Try.f26 [1,1]] [(3, .int .i64 1)] w (by kernel_rfl) .nil ?_
  refine GoS.ret (fn := Try.f26) (v := (.int .i64 1)) Try.func26 (by kernel_rfl) ?_
  rw [hR]
  have e0 : freshE seen s = 1 := fresh_name (by simpa using h1)
  exact ⟨ret_int e0.symm, hM0.mono1, by rw [e0]; exact (hm.kept0 hM0.kept)⟩
 ·
  have o2 : (Instr.loadAt 62 (pq b)).run Try.prog w = .ok (.map (some B)) w := c_load pE62 (hbx.kept0 hM0.kept) (cel_obj b 0) rfl
  have o3 : (Instr.lookup 62 (.map (some B)) (sS s) false).run Try.prog w = .ok (.bool (List.contains seen s)) w := f_lookup Try.underlying62 Try.underlying9 (by kernel_rfl) (hm.kept0 hM0.kept) s
  refine GoS.run [0, 1, 8] [.n, .n, .h (.map (some B)), .n, .h (.bool (List.contains seen s)), .n, .n] _ [iC Try.f26 [1,0,0,1,1,1], .inBlock 0, iC Try.f26 [1,1]] [(0, sS s), (1, pq b), (8, .bool (List.contains seen s))] w (by kernel_rfl) (.cons o2 (.cons o3 .nil)) ?_
  refine GoS.cond (List.contains seen s) [iC Try.f26 [1,0,0,1,1,1,0], .inBlock 0, iC Try.f26 [1,1]] [iC Try.f26 [1,0,0,1,1,1,1], .inBlock 0, iC Try.f26 [1,1]] (by kernel_rfl) (fun h4 => ?_) (fun h4 => ?_)
  ·
   refine GoS.run [3] [.n, .n, .n, .n] _ [iC Try.f26 [1,0,0,1,1,1,0,1], .inBlock 0, iC Try.f26 [1,1]] [(3, .int .i64 12)] w (by kernel_rfl) .nil ?_
   refine GoS.ret (fn := Try.f26) (v := (.int .i64 12)) Try.func26 (by kernel_rfl) ?_
   rw [hR]
   have e0 : freshE seen s = 12 := fresh_there (by simpa using h1) (by simpa using h4)
   exact ⟨ret_int e0.symm, hM0.mono1, by rw [e0]; exact (hm.kept0 hM0.kept)⟩
  ·
   refine GoS.run [0, 1] [.n] _ [.inBlock 0, iC Try.f26 [1,1]] [(0, sS s), (1, pq b)] w (by kernel_rfl) .nil ?_
   have o9 : (Instr.loadAt 62 (pq b)).run Try.prog w = .ok (.map (some B)) w := c_load pE62 (hbx.kept0 hM0.kept) (cel_obj b 0) rfl
   obtain ⟨w5, hr6, hk7, hm8⟩ := m_mapset (t := 62) Try.underlying62 Try.underlying9 (hm.kept0 hM0.kept) s (by simpa using h4)
   have o10 : (Instr.mapUpdate 62 (.map (some B)) (sS s) (.bool true)).run Try.prog w = .ok () w5 ∧ undef = undef := ⟨hr6, rfl⟩
   refine GoS.run [3] [.n, .n, .n, .h (.map (some B)), .n, .u (undef) (w5), .n, .n, .n, .n, .n] _ [iC Try.f26 [1,1,1,1]] [(3, .int .i64 0)] w5 (by kernel_rfl) (.cons o9 (.cons o10 .nil)) ?_
   refine GoS.ret (fn := Try.f26) (v := (.int .i64 0)) Try.func26 (by kernel_rfl) ?_
   rw [hR]
   have e0 : freshE seen s = 0 := fresh_ok (by simpa using h1) (by simpa using h4)
   exact ⟨ret_int e0.symm, (Mem.start w).of_kept (hM0.kept.mono1.trans hk7), by rw [e0, if_pos rfl]; exact hm8⟩




set_option maxHeartbeats 400000 in
theorem cmps_c (a b : List UInt8) (w : World) :
  Calls Try.prog 48 #[sS a, sS b] w (fun e w' => e = .returned (.int .i64 (Lib.compareBytes a b)) ∧ w = w') := by
 obtain ⟨R, hR⟩ : ∃ R : Ending → World → Prop, R = (fun e w' => e = .returned (.int .i64 (Lib.compareBytes a b)) ∧ w = w') := ⟨_, rfl⟩
 rw [← hR]
 refine GoS.enter (n := 8) Try.func48 (by kernel_rfl) rfl [(0, sS a), (1, sS b)] (by kernel_rfl) (by kernel_rfl) ?_
 have o1 : (callFunc 68 #[sS a, sS b]).run Try.prog w = .ok (.value (.int .i64 (Lib.compareBytes a b))) w := x_cmp Try.func68 (by kernel_rfl) (by kernel_rfl) (by kernel_rfl) (by kernel_rfl) a b w
 refine GoS.run [4] [.n, .n, .n, .n, .n, .n, .n, .n, .h (.int .i64 (Lib.compareBytes a b)), .n, .n] _ [iC Try.f48 [1,1]] [(4, .int .i64 (Lib.compareBytes a b))] w (by kernel_rfl) (.cons o1 .nil) ?_
 refine GoS.ret (fn := Try.f48) (v := (.int .i64 (Lib.compareBytes a b))) Try.func48 (by kernel_rfl) ?_
 rw [hR]
 exact ⟨rfl, rfl⟩

set_option maxHeartbeats 400000 in
theorem cmpt_c (a b : List UInt8) (w : World) :
  Calls Try.prog 31 #[sS a, sS b] w (fun e w' => e = .returned (.int .i64 (Lib.compareBytes a b)) ∧ w = w') := by
 obtain ⟨R, hR⟩ : ∃ R : Ending → World → Prop, R = (fun e w' => e = .returned (.int .i64 (Lib.compareBytes a b)) ∧ w = w') := ⟨_, rfl⟩
 rw [← hR]
 refine GoS.enter (n := 8) Try.func31 (by kernel_rfl) rfl [(0, sS a), (1, sS b)] (by kernel_rfl) (by kernel_rfl) ?_
 refine GoS.run [5, 6] [.n, .n, .n, .n, .n, .n, .n, .n] _ [.inRegion (cops (csub (cd Try.f31) [1,0])) [2,3], iC Try.f31 [1,1]] [(5, sS a), (6, sS b)] w (by kernel_rfl) .nil ?_
 refine GoS.call [] 48 #[sS a, sS b] (some 7) [.inRegion (cops (csub (cd Try.f31) [1,0])) [3], iC Try.f31 [1,1]] [] (by kernel_rfl) (cmps_c a b w) ?_
 rintro _ _ ⟨rfl, rfl⟩
 refine ⟨_, rfl, ?_⟩
 refine GoS.run [4] [.n, .n] _ [iC Try.f31 [1,1]] [(4, .int .i64 (Lib.compareBytes a b))] w (by kernel_rfl) .nil ?_
 refine GoS.ret (fn := Try.f31) (v := (.int .i64 (Lib.compareBytes a b))) Try.func31 (by kernel_rfl) ?_
 rw [hR]
 exact ⟨rfl, rfl⟩

set_option maxHeartbeats 400000 in
theorem cmpw_c (x y : WZ) (hx : x.toks.oneCell' = true ∧ x.toks.cells = #[x.toks] ∧ x.toks.cells.toList = [x.toks]) (hy : y.toks.oneCell' = true ∧ y.toks.cells = #[y.toks] ∧ y.toks.cells.toList = [y.toks]) (w : World) :
  Calls Try.prog 30 #[.agg #[sS (x.wd.name), x.toks], .agg #[sS (y.wd.name), y.toks]] w (fun e w' => e = .returned (.int .i64 (Lib.compareBytes x.wd.name y.wd.name)) ∧ Grew w w') := by
 obtain ⟨R, hR⟩ : ∃ R : Ending → World → Prop, R = (fun e w' => e = .returned (.int .i64 (Lib.compareBytes x.wd.name y.wd.name)) ∧ Grew w w') := ⟨_, rfl⟩
 rw [← hR]
 refine GoS.enter (n := 10) Try.func30 (by kernel_rfl) rfl [(0, .agg #[sS (x.wd.name), x.toks]), (1, .agg #[sS (y.wd.name), y.toks])] (by kernel_rfl) (by kernel_rfl) ?_
 have hM0 := Mem.start w
 obtain ⟨b1, w2, hr3, hM4⟩ := m_box (T := 68) (k := 2) (u := .agg #[sS (x.wd.name), x.toks]) rfl rfl hM0
 have hG5 := (Grew.refl w).trans (box_grown hr3)
 have hM6 : Mem [] w w2 [⟨68, 2, (obj b1), 1, [sS (x.wd.name), x.toks]⟩] := hM4
 have o13 : (Instr.box 68 (.agg #[sS (x.wd.name), x.toks])).run Try.prog w = .ok (pq b1) w2 := hr3
 obtain ⟨b7, w8, hr9, hM10⟩ := m_box (T := 68) (k := 2) (u := .agg #[sS (y.wd.name), y.toks]) rfl rfl hM6
 have hG11 := hG5.trans (box_grown hr9)
 have hM12 : Mem [] w w8 [⟨68, 2, (obj b7), 1, [sS (y.wd.name), y.toks]⟩, ⟨68, 2, (obj b1), 1, [sS (x.wd.name), x.toks]⟩] := hM10
 have o14 : (Instr.box 68 (.agg #[sS (y.wd.name), y.toks])).run Try.prog w2 = .ok (pq b7) w8 := hr9
 have o15 : (Instr.loadAt 9 (pq b1)).run Try.prog w8 = .ok (sS (x.wd.name)) w8 := c_load pE9 (hM12.rd 1 rfl) (cel_obj b1 0) rfl
 have o16 : (Instr.loadAt 9 (pq b7)).run Try.prog w8 = .ok (sS (y.wd.name)) w8 := c_load pE9 (hM12.rd 0 rfl) (cel_obj b7 0) rfl
 have hM17 := hM12.sub (sD (sD sR))
 refine GoS.run [6, 8] [.n, .n, .u (pq b1) (w2), .u (pq b7) (w8), .n, .n, .n, .n, .n, .h (sS (x.wd.name)), .n, .h (sS (y.wd.name))] _ [.inRegion (cops (csub (cd Try.f30) [1,0])) [4,5], iC Try.f30 [1,1]] [(6, sS (x.wd.name)), (8, sS (y.wd.name))] w8 (by kernel_rfl) (.cons o13 (.cons o14 (.cons o15 (.cons o16 .nil)))) ?_
 refine GoS.call [] 31 #[sS (x.wd.name), sS (y.wd.name)] (some 9) [.inRegion (cops (csub (cd Try.f30) [1,0])) [5], iC Try.f30 [1,1]] [] (by kernel_rfl) (cmpt_c (x.wd.name) (y.wd.name) w8) ?_
 rintro _ _ ⟨rfl, rfl⟩
 refine ⟨_, rfl, ?_⟩
 refine GoS.run [4] [.n, .n] _ [iC Try.f30 [1,1]] [(4, .int .i64 (Lib.compareBytes (x.wd.name) (y.wd.name)))] w8 (by kernel_rfl) .nil ?_
 refine GoS.ret (fn := Try.f30) (v := (.int .i64 (Lib.compareBytes (x.wd.name) (y.wd.name)))) Try.func30 (by kernel_rfl) ?_
 rw [hR]
 exact ⟨rfl, hG11⟩

set_option maxHeartbeats 400000 in
theorem cmpn_c (x y : Nm)  (w : World) :
  Calls Try.prog 33 #[.agg #[sS (x.name), .int .u64 (x.bits)], .agg #[sS (y.name), .int .u64 (y.bits)]] w (fun e w' => e = .returned (.int .i64 (Lib.compareBytes x.name y.name)) ∧ Grew w w') := by
 obtain ⟨R, hR⟩ : ∃ R : Ending → World → Prop, R = (fun e w' => e = .returned (.int .i64 (Lib.compareBytes x.name y.name)) ∧ Grew w w') := ⟨_, rfl⟩
 rw [← hR]
 refine GoS.enter (n := 10) Try.func33 (by kernel_rfl) rfl [(0, .agg #[sS (x.name), .int .u64 (x.bits)]), (1, .agg #[sS (y.name), .int .u64 (y.bits)])] (by kernel_rfl) (by kernel_rfl) ?_
 have hM0 := Mem.start w
 obtain ⟨b1, w2, hr3, hM4⟩ := m_box (T := 60) (k := 2) (u := .agg #[sS (x.name), .int .u64 (x.bits)]) rfl rfl hM0
 have hG5 := (Grew.refl w).trans (box_grown hr3)
 have hM6 : Mem [] w w2 [⟨60, 2, (obj b1), 1, [sS (x.name), .int .u64 (x.bits)]⟩] := hM4
 have o13 : (Instr.box 60 (.agg #[sS (x.name), .int .u64 (x.bits)])).run Try.prog w = .ok (pq b1) w2 := hr3
 obtain ⟨b7, w8, hr9, hM10⟩ := m_box (T := 60) (k := 2) (u := .agg #[sS (y.name), .int .u64 (y.bits)]) rfl rfl hM6
 have hG11 := hG5.trans (box_grown hr9)
 have hM12 : Mem [] w w8 [⟨60, 2, (obj b7), 1, [sS (y.name), .int .u64 (y.bits)]⟩, ⟨60, 2, (obj b1), 1, [sS (x.name), .int .u64 (x.bits)]⟩] := hM10
 have o14 : (Instr.box 60 (.agg #[sS (y.name), .int .u64 (y.bits)])).run Try.prog w2 = .ok (pq b7) w8 := hr9
 have o15 : (Instr.loadAt 9 (pq b1)).run Try.prog w8 = .ok (sS (x.name)) w8 := c_load pE9 (hM12.rd 1 rfl) (cel_obj b1 0) rfl
 have o16 : (Instr.loadAt 9 (pq b7)).run Try.prog w8 = .ok (sS (y.name)) w8 := c_load pE9 (hM12.rd 0 rfl) (cel_obj b7 0) rfl
 have hM17 := hM12.sub (sD (sD sR))
 refine GoS.run [6, 8] [.n, .n, .u (pq b1) (w2), .u (pq b7) (w8), .n, .n, .n, .n, .n, .h (sS (x.name)), .n, .h (sS (y.name))] _ [.inRegion (cops (csub (cd Try.f33) [1,0])) [4,5], iC Try.f33 [1,1]] [(6, sS (x.name)), (8, sS (y.name))] w8 (by kernel_rfl) (.cons o13 (.cons o14 (.cons o15 (.cons o16 .nil)))) ?_
 refine GoS.call [] 31 #[sS (x.name), sS (y.name)] (some 9) [.inRegion (cops (csub (cd Try.f33) [1,0])) [5], iC Try.f33 [1,1]] [] (by kernel_rfl) (cmpt_c (x.name) (y.name) w8) ?_
 rintro _ _ ⟨rfl, rfl⟩
 refine ⟨_, rfl, ?_⟩
 refine GoS.run [4] [.n, .n] _ [iC Try.f33 [1,1]] [(4, .int .i64 (Lib.compareBytes (x.name) (y.name)))] w8 (by kernel_rfl) .nil ?_
 refine GoS.ret (fn := Try.f33) (v := (.int .i64 (Lib.compareBytes (x.name) (y.name)))) Try.func33 (by kernel_rfl) ?_
 rw [hR]
 exact ⟨rfl, hG11⟩

theorem srtW_c {S : List Nat} {w0 w : World} (v : Value) (l : List WZ) (R : List Row) (hl : l.length ≤ 1000000000) (hn : (l.map (fun z : WZ => z.wd.name)).Nodup) (hone : ∀ x ∈ l, x.toks.oneCell' = true ∧ x.toks.cells = #[x.toks] ∧ x.toks.cells.toList = [x.toks]) (hM : Mem S w0 w (⟨68, 2, v, List.length l, recs wzC l⟩ :: R)) :
  Calls Try.prog 29 #[v, .func (.func 30) #[] #[]] w (fun e w' => e = .returned (.tuple #[]) ∧ Mem S w0 w' (⟨68, 2, v, List.length (isort (fun z : WZ => z.wd.name) l), recs wzC (isort (fun z : WZ => z.wd.name) l)⟩ :: R)) := by
 have key := sort_rowD (ρ := srtWR) (enc := wzC) (key := (fun z : WZ => z.wd.name)) (k := 2) (L := l) srtW_lays Try.isAgg68 Try.sizeOf68 wzC_len (fun x hx u hu => by simp [wzC] at hu; rcases hu with rfl | rfl; rfl; exact (hone x hx).1) hn 30 (Go.Proofs.enters_of Try.func30 (by kernel_rfl) rfl) (fun x hx y hy W => cmpw_c x y (hone x hx) (hone y hy) W) hM (by omega)
 rw [isort_len]
 exact key

theorem srtN_c {S : List Nat} {w0 w : World} (v : Value) (l : List Nm) (R : List Row) (hl : l.length ≤ 1000000000) (hn : (l.map Nm.name).Nodup) (hM : Mem S w0 w (⟨60, 2, v, List.length l, recs nmC l⟩ :: R)) :
  Calls Try.prog 32 #[v, .func (.func 33) #[] #[]] w (fun e w' => e = .returned (.tuple #[]) ∧ Mem S w0 w' (⟨60, 2, v, List.length (isort Nm.name l), recs nmC (isort Nm.name l)⟩ :: R)) := by
 have key := sort_rowD (ρ := srtNR) (enc := nmC) (key := Nm.name) (k := 2) (L := l) srtN_lays Try.isAgg60 Try.sizeOf60 nmC_len (fun x hx => nmC_one x) hn 33 (Go.Proofs.enters_of Try.func33 (by kernel_rfl) rfl) (fun x hx y hy W => cmpn_c x y W) hM (by omega)
 rw [isort_len]
 exact key


end Go.Proofs.Ytcdcehjilneifaa
