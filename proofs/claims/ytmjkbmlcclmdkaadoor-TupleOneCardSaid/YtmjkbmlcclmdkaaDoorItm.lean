/-
  The walk of written.
-/
import Derived.Test.YtmjkbmlcclmdkaaDoorAwk
namespace Go.Proofs.YtmjkbmlcclmdkaaDoor
open Go Go.Gw Go.NumP Go.CrcP Go.SealP Go.TupP Go.DoorP Go.RowKit
set_option linter.unusedVariables false
set_option linter.unusedSimpArgs false

theorem sT32 : SliceT Tryd.prog 32 38 3 32 (.agg #[.int .u8 0, .int .i64 0, .string (sb ([]))]) := ⟨by kernel_rfl, ⟨_, rfl, by kernel_rfl, by kernel_rfl, by kernel_rfl⟩, rfl, by decide⟩
theorem pE5 : Plain Tryd.prog 5 := ⟨.int .u8, by kernel_rfl, (fun _ h => by cases h), (fun _ _ h => by cases h)⟩

set_option maxHeartbeats 1000000 in
theorem writ_L {w0 : World} (u : Value) (l : List It) (hw : ∀ j, GoodIt (l.getD j itz)) (hl : l.length ≤ 300) (hu : Rd w0 3 u l.length (recs itC l)) (R : Ending → World → Prop) (hR : R = (fun e w' => e = .returned (.string (sb (itsB l))) ∧ Mem [] w0 w' [])) : ∀ (N : Nat) (i : Nat) (w : World) (hi : i ≤ l.length) (hM : Mem [] w0 w []) (hN : l.length - i < N), GoS Tryd.prog 17 R 47 [.code (csub (cd Tryd.f17) [1,1,0,1,0,0]), .inLoop (csub (cd Tryd.f17) [1,1,0,1,0,0]), .inBlock 0, .code (csub (cd Tryd.f17) [1,1,1])] [(0, u), (3, .string (sb (itsB (List.take i l)))), (4, .int .i64 ((i : Nat) : Int))] w := by
  intro N
  induction N with
  | zero => intro i w hi hM hN; exact absurd hN (Nat.not_lt_zero _)
  | succ N ih =>
    intro i w hi hM hN
    have hki := (hw i).1
    have o1 : (Builtin.len_ #[32] 3 #[u]).run Tryd.prog w = .ok (.int .i64 (((List.length l) : Nat) : Int)) w := f_slen sT32 (hu.kept0 hM.kept) 3 _
    refine GoS.run [0, 3, 4, 8] [.n, .n, .n, .n, .n, .h (.int .i64 (((List.length l) : Nat) : Int)), .n, .n] _ [.code (csub (cd Tryd.f17) [1,1,0,1,0,0,0,1]), .code (csub (cd Tryd.f17) [1,1,0,1,0,0,1]), .inLoop (csub (cd Tryd.f17) [1,1,0,1,0,0]), .inBlock 0, .code (csub (cd Tryd.f17) [1,1,1])] [(0, u), (3, .string (sb (itsB (List.take i l)))), (4, .int .i64 ((i : Nat) : Int)), (8, .bool (decide (((i : Nat) : Int) < (((List.length l) : Nat) : Int))))] w (by kernel_rfl) (.cons o1 .nil) ?_
    refine GoS.cond (decide (((i : Nat) : Int) < (((List.length l) : Nat) : Int))) [.code (csub (cd Tryd.f17) [1,1,0,1,0,0,0,1,0]), .code (csub (cd Tryd.f17) [1,1,0,1,0,0,1]), .inLoop (csub (cd Tryd.f17) [1,1,0,1,0,0]), .inBlock 0, .code (csub (cd Tryd.f17) [1,1,1])] [.code (csub (cd Tryd.f17) [1,1,0,1,0,0,0,1,1]), .code (csub (cd Tryd.f17) [1,1,0,1,0,0,1]), .inLoop (csub (cd Tryd.f17) [1,1,0,1,0,0]), .inBlock 0, .code (csub (cd Tryd.f17) [1,1,1])] (by kernel_rfl) (fun h2 => ?_) (fun h2 => ?_)
    ·
      have h2p : ((i : Nat) : Int) < (((List.length l) : Nat) : Int) := of_decide_eq_true h2
      refine GoS.run [0, 3, 4] [.n] _ [.code (csub (cd Tryd.f17) [1,1,0,1,0,0,1]), .inLoop (csub (cd Tryd.f17) [1,1,0,1,0,0]), .inBlock 0, .code (csub (cd Tryd.f17) [1,1,1])] [(0, u), (3, .string (sb (itsB (List.take i l)))), (4, .int .i64 ((i : Nat) : Int))] w (by kernel_rfl) .nil ?_
      obtain ⟨p3, hp4, hq5⟩ := rd_at (i := ((i : Nat) : Int)) sT32 (hu.kept0 hM.kept) i (by omega) (by first | omega | (dsimp only; omega))
      have o7 : (Instr.indexAt 32 (u) (.int .i64 ((i : Nat) : Int))).run Tryd.prog w = .ok (.pointer (some p3)) w := hq5 _ _
      have hb6 := hw i
      have o8 : (Instr.loadAt 5 (.pointer (some (Addr.add p3 0)))).run Tryd.prog w = .ok (.int .u8 ((List.getD l i itz).kind)) w := c_load pE5 (hu.kept0 hM.kept) (Cel.add (At.cel hp4) 0) (recs_at (i := 0) itC_len itz (by first | omega | (dsimp only; omega)) rfl)
      have o9 : (binOp .rem 5 (.int .u8 ((List.getD l i itz).kind)) (.int .u8 3)).run Tryd.prog w = .ok (.int .u8 (((List.getD l i itz).kind) % 3)) w := f_rem (by decide) (IntWalk.rem_in _ _ (by omega))
      refine GoS.run [0, 3, 4, 16, 25] [.n, .n, .n, .n, .n, .n, .h (.pointer (some p3)), .n, .h (.int .u8 ((List.getD l i itz).kind)), .h (.int .u8 (((List.getD l i itz).kind) % 3)), .n, .n, .n, .n, .n, .n, .n] _ [.code (csub (cd Tryd.f17) [1,1,0,1,0,0,1,0,0,1,0,1]), .inBlock 2, .inBlock 1, .code (csub (cd Tryd.f17) [1,1,0,1,0,0,1,1]), .inLoop (csub (cd Tryd.f17) [1,1,0,1,0,0]), .inBlock 0, .code (csub (cd Tryd.f17) [1,1,1])] [(0, u), (3, .string (sb (itsB (List.take i l)))), (4, .int .i64 ((i : Nat) : Int)), (16, .int .u8 (((List.getD l i itz).kind) % 3)), (25, .bool ((((List.getD l i itz).kind) % 3) == 0))] w (by kernel_rfl) (.cons o7 (.cons o8 (.cons o9 .nil))) ?_
      refine GoS.cond ((((List.getD l i itz).kind) % 3) == 0) [.code (csub (cd Tryd.f17) [1,1,0,1,0,0,1,0,0,1,0,1,0]), .inBlock 2, .inBlock 1, .code (csub (cd Tryd.f17) [1,1,0,1,0,0,1,1]), .inLoop (csub (cd Tryd.f17) [1,1,0,1,0,0]), .inBlock 0, .code (csub (cd Tryd.f17) [1,1,1])] [.code (csub (cd Tryd.f17) [1,1,0,1,0,0,1,0,0,1,0,1,1]), .inBlock 2, .inBlock 1, .code (csub (cd Tryd.f17) [1,1,0,1,0,0,1,1]), .inLoop (csub (cd Tryd.f17) [1,1,0,1,0,0]), .inBlock 0, .code (csub (cd Tryd.f17) [1,1,1])] (by kernel_rfl) (fun h10 => ?_) (fun h10 => ?_)
      ·
        have h10p : (((List.getD l i itz).kind) % 3) = 0 := eq_of_beq h10
        obtain ⟨p11, hp12, hq13⟩ := rd_at (i := ((i : Nat) : Int)) sT32 (hu.kept0 hM.kept) i (by omega) (by first | omega | (dsimp only; omega))
        have o19 : (Instr.indexAt 32 (u) (.int .i64 ((i : Nat) : Int))).run Tryd.prog w = .ok (.pointer (some p11)) w := hq13 _ _
        have hb14 := hw i
        have o20 : (Instr.loadAt 3 (.pointer (some (Addr.add p11 1)))).run Tryd.prog w = .ok (.int .i64 ((List.getD l i itz).n)) w := c_load pE3 (hu.kept0 hM.kept) (Cel.add (At.cel hp12) 1) (recs_at (i := 1) itC_len itz (by first | omega | (dsimp only; omega)) rfl)
        obtain ⟨v15, w16, hr17, hM18⟩ := m_lit sT28 hM (n := 1) (parts := #[(0, .int .i64 ((List.getD l i itz).n))]) (cs := [.int .i64 ((List.getD l i itz).n)]) (by decide) (by kernel_rfl) rfl
        have o21 : (Instr.buildSlice 28 1 #[(0, .int .i64 ((List.getD l i itz).n))]).run Tryd.prog w = .ok v15 w16 := hr17
        refine GoS.run [0, 4, 27, 33] [.n, .n, .n, .n, .h (.pointer (some p11)), .n, .h (.int .i64 ((List.getD l i itz).n)), .u (v15) (w16)] _ [.inRegion (cops (csub (cd Tryd.f17) [1,1,0,1,0,0,1,0,0,1,0,1,0])) [7,8,9], .inBlock 2, .inBlock 1, .code (csub (cd Tryd.f17) [1,1,0,1,0,0,1,1]), .inLoop (csub (cd Tryd.f17) [1,1,0,1,0,0]), .inBlock 0, .code (csub (cd Tryd.f17) [1,1,1])] [(0, u), (4, .int .i64 ((i : Nat) : Int)), (27, .string (sb (itsB (List.take i l)))), (33, v15)] w16 (by kernel_rfl) (.cons o19 (.cons o20 (.cons o21 .nil))) ?_
        refine GoS.call [0, 4, 27] 10 #[v15] (some 34) [.inRegion (cops (csub (cd Tryd.f17) [1,1,0,1,0,0,1,0,0,1,0,1,0])) [8,9], .inBlock 2, .inBlock 1, .code (csub (cd Tryd.f17) [1,1,0,1,0,0,1,1]), .inLoop (csub (cd Tryd.f17) [1,1,0,1,0,0]), .inBlock 0, .code (csub (cd Tryd.f17) [1,1,1])] [(0, u), (4, .int .i64 ((i : Nat) : Int)), (27, .string (sb (itsB (List.take i l))))] (by kernel_rfl) (nums1_c v15 ((List.getD l i itz).n) (by exact (hw i).2.1) w16 (hM18.rd 0 rfl)) ?_
        rintro _ w22 ⟨rfl, m23⟩
        refine ⟨_, rfl, ?_⟩
        have hM24 := Mem.join hM18 m23
        have o25 : (binOp .add 9 (.string (sb (itsB (List.take i l)))) (.string (sb (nb ((List.getD l i itz).n))))).run Tryd.prog w22 = .ok (.string (sb ((itsB (List.take i l)) ++ (nb ((List.getD l i itz).n))))) w22 := f_stradd (by have q := (hw i).2.2; have q1 := textB_len (List.getD l i itz).s; have q2 := numB_len (List.getD l i itz).n; have q3 := (its_room (more := []) hw hl (by simp) i).2; have q4 := blk_len (List.getD l i itz).s; first | omega | (rw [bytesOf_len]; omega))
        have hM26 : Mem [] w0 w22 [] := hM24.sub (List.Sublist.cons _ (List.Sublist.refl _))
        refine GoS.run [0, 3, 4] [.h (.string (sb ((itsB (List.take i l)) ++ (nb ((List.getD l i itz).n))))), .n, .n] _ [.inBlock 2, .inBlock 1, .code (csub (cd Tryd.f17) [1,1,0,1,0,0,1,1]), .inLoop (csub (cd Tryd.f17) [1,1,0,1,0,0]), .inBlock 0, .code (csub (cd Tryd.f17) [1,1,1])] [(0, u), (3, .string (sb ((itsB (List.take i l)) ++ (nb ((List.getD l i itz).n))))), (4, .int .i64 ((i : Nat) : Int))] w22 (by kernel_rfl) (.cons o25 .nil) ?_
        have o49 : (binOp .add 3 (.int .i64 ((i : Nat) : Int)) (.int .i64 1)).run Tryd.prog w22 = .ok (.int .i64 (((i + 1) : Nat) : Int)) w22 := f_add (by rw [show ((i : Nat) : Int) + 1 = (((i + 1) : Nat) : Int) by omega]; exact IntWalk.i64_in _ (by omega))
        refine GoS.run [0, 3, 4] [.n, .n, .n, .n, .h (.int .i64 (((i + 1) : Nat) : Int)), .n, .n, .n] _ [.code (csub (cd Tryd.f17) [1,1,0,1,0,0]), .inLoop (csub (cd Tryd.f17) [1,1,0,1,0,0]), .inBlock 0, .code (csub (cd Tryd.f17) [1,1,1])] [(0, u), (3, .string (sb ((itsB (List.take i l)) ++ (nb ((List.getD l i itz).n))))), (4, .int .i64 (((i + 1) : Nat) : Int))] w22 (by kernel_rfl) (.cons o49 .nil) ?_
        exact GoS.cast (by rw [its_snoc (show i < l.length by omega), itB, if_pos h10p]) (ih (i + 1) _ (by omega) hM26 (by omega))
      ·
        have h10p : ¬ ((((List.getD l i itz).kind) % 3) = 0) := p_ne h10
        refine GoS.run [0, 3, 4, 36] [.n, .n, .n, .n, .n] _ [.code (csub (cd Tryd.f17) [1,1,0,1,0,0,1,0,0,1,0,1,1,1]), .inBlock 2, .inBlock 1, .code (csub (cd Tryd.f17) [1,1,0,1,0,0,1,1]), .inLoop (csub (cd Tryd.f17) [1,1,0,1,0,0]), .inBlock 0, .code (csub (cd Tryd.f17) [1,1,1])] [(0, u), (3, .string (sb (itsB (List.take i l)))), (4, .int .i64 ((i : Nat) : Int)), (36, .bool ((((List.getD l i itz).kind) % 3) == 1))] w (by kernel_rfl) .nil ?_
        refine GoS.cond ((((List.getD l i itz).kind) % 3) == 1) [.code (csub (cd Tryd.f17) [1,1,0,1,0,0,1,0,0,1,0,1,1,1,0]), .inBlock 2, .inBlock 1, .code (csub (cd Tryd.f17) [1,1,0,1,0,0,1,1]), .inLoop (csub (cd Tryd.f17) [1,1,0,1,0,0]), .inBlock 0, .code (csub (cd Tryd.f17) [1,1,1])] [.code (csub (cd Tryd.f17) [1,1,0,1,0,0,1,0,0,1,0,1,1,1,1]), .inBlock 2, .inBlock 1, .code (csub (cd Tryd.f17) [1,1,0,1,0,0,1,1]), .inLoop (csub (cd Tryd.f17) [1,1,0,1,0,0]), .inBlock 0, .code (csub (cd Tryd.f17) [1,1,1])] (by kernel_rfl) (fun h27 => ?_) (fun h27 => ?_)
        ·
          have h27p : (((List.getD l i itz).kind) % 3) = 1 := eq_of_beq h27
          obtain ⟨p28, hp29, hq30⟩ := rd_at (i := ((i : Nat) : Int)) sT32 (hu.kept0 hM.kept) i (by omega) (by first | omega | (dsimp only; omega))
          have o32 : (Instr.indexAt 32 (u) (.int .i64 ((i : Nat) : Int))).run Tryd.prog w = .ok (.pointer (some p28)) w := hq30 _ _
          have hb31 := hw i
          have o33 : (Instr.loadAt 9 (.pointer (some (Addr.add p28 2)))).run Tryd.prog w = .ok (.string (sb ((List.getD l i itz).s))) w := c_load pE9 (hu.kept0 hM.kept) (Cel.add (At.cel hp29) 2) (recs_at (i := 2) itC_len itz (by first | omega | (dsimp only; omega)) rfl)
          refine GoS.run [0, 4, 38, 43] [.n, .n, .n, .n, .h (.pointer (some p28)), .n, .h (.string (sb ((List.getD l i itz).s)))] _ [.inRegion (cops (csub (cd Tryd.f17) [1,1,0,1,0,0,1,0,0,1,0,1,1,1,0])) [6,7,8], .inBlock 2, .inBlock 1, .code (csub (cd Tryd.f17) [1,1,0,1,0,0,1,1]), .inLoop (csub (cd Tryd.f17) [1,1,0,1,0,0]), .inBlock 0, .code (csub (cd Tryd.f17) [1,1,1])] [(0, u), (4, .int .i64 ((i : Nat) : Int)), (38, .string (sb (itsB (List.take i l)))), (43, .string (sb ((List.getD l i itz).s)))] w (by kernel_rfl) (.cons o32 (.cons o33 .nil)) ?_
          refine GoS.call [0, 4, 38] 11 #[.string (sb ((List.getD l i itz).s))] (some 44) [.inRegion (cops (csub (cd Tryd.f17) [1,1,0,1,0,0,1,0,0,1,0,1,1,1,0])) [7,8], .inBlock 2, .inBlock 1, .code (csub (cd Tryd.f17) [1,1,0,1,0,0,1,1]), .inLoop (csub (cd Tryd.f17) [1,1,0,1,0,0]), .inBlock 0, .code (csub (cd Tryd.f17) [1,1,1])] [(0, u), (4, .int .i64 ((i : Nat) : Int)), (38, .string (sb (itsB (List.take i l))))] (by kernel_rfl) (text_c ((List.getD l i itz).s) (by have q := (hw i).2.2; omega) w) ?_
          rintro _ w34 ⟨rfl, m35⟩
          refine ⟨_, rfl, ?_⟩
          have hM36 := Mem.join hM m35
          have o37 : (binOp .add 9 (.string (sb (itsB (List.take i l)))) (.string (sb (textB ((List.getD l i itz).s))))).run Tryd.prog w34 = .ok (.string (sb ((itsB (List.take i l)) ++ (textB ((List.getD l i itz).s))))) w34 := f_stradd (by have q := (hw i).2.2; have q1 := textB_len (List.getD l i itz).s; have q2 := numB_len (List.getD l i itz).n; have q3 := (its_room (more := []) hw hl (by simp) i).2; have q4 := blk_len (List.getD l i itz).s; first | omega | (rw [bytesOf_len]; omega))
          refine GoS.run [0, 3, 4] [.h (.string (sb ((itsB (List.take i l)) ++ (textB ((List.getD l i itz).s))))), .n, .n] _ [.inBlock 2, .inBlock 1, .code (csub (cd Tryd.f17) [1,1,0,1,0,0,1,1]), .inLoop (csub (cd Tryd.f17) [1,1,0,1,0,0]), .inBlock 0, .code (csub (cd Tryd.f17) [1,1,1])] [(0, u), (3, .string (sb ((itsB (List.take i l)) ++ (textB ((List.getD l i itz).s))))), (4, .int .i64 ((i : Nat) : Int))] w34 (by kernel_rfl) (.cons o37 .nil) ?_
          have o50 : (binOp .add 3 (.int .i64 ((i : Nat) : Int)) (.int .i64 1)).run Tryd.prog w34 = .ok (.int .i64 (((i + 1) : Nat) : Int)) w34 := f_add (by rw [show ((i : Nat) : Int) + 1 = (((i + 1) : Nat) : Int) by omega]; exact IntWalk.i64_in _ (by omega))
          refine GoS.run [0, 3, 4] [.n, .n, .n, .n, .h (.int .i64 (((i + 1) : Nat) : Int)), .n, .n, .n] _ [.code (csub (cd Tryd.f17) [1,1,0,1,0,0]), .inLoop (csub (cd Tryd.f17) [1,1,0,1,0,0]), .inBlock 0, .code (csub (cd Tryd.f17) [1,1,1])] [(0, u), (3, .string (sb ((itsB (List.take i l)) ++ (textB ((List.getD l i itz).s))))), (4, .int .i64 (((i + 1) : Nat) : Int))] w34 (by kernel_rfl) (.cons o50 .nil) ?_
          exact GoS.cast (by rw [its_snoc (show i < l.length by omega), itB, if_neg h10p, if_pos h27p]) (ih (i + 1) _ (by omega) hM36 (by omega))
        ·
          have h27p : ¬ ((((List.getD l i itz).kind) % 3) = 1) := p_ne h27
          obtain ⟨p38, hp39, hq40⟩ := rd_at (i := ((i : Nat) : Int)) sT32 (hu.kept0 hM.kept) i (by omega) (by first | omega | (dsimp only; omega))
          have o42 : (Instr.indexAt 32 (u) (.int .i64 ((i : Nat) : Int))).run Tryd.prog w = .ok (.pointer (some p38)) w := hq40 _ _
          have hb41 := hw i
          have o43 : (Instr.loadAt 9 (.pointer (some (Addr.add p38 2)))).run Tryd.prog w = .ok (.string (sb ((List.getD l i itz).s))) w := c_load pE9 (hu.kept0 hM.kept) (Cel.add (At.cel hp39) 2) (recs_at (i := 2) itC_len itz (by first | omega | (dsimp only; omega)) rfl)
          refine GoS.run [0, 4, 17, 22] [.n, .n, .n, .n, .h (.pointer (some p38)), .n, .h (.string (sb ((List.getD l i itz).s)))] _ [.inRegion (cops (csub (cd Tryd.f17) [1,1,0,1,0,0,1,0,0,1,0,1,1,1,1])) [6,7,8], .inBlock 2, .inBlock 1, .code (csub (cd Tryd.f17) [1,1,0,1,0,0,1,1]), .inLoop (csub (cd Tryd.f17) [1,1,0,1,0,0]), .inBlock 0, .code (csub (cd Tryd.f17) [1,1,1])] [(0, u), (4, .int .i64 ((i : Nat) : Int)), (17, .string (sb (itsB (List.take i l)))), (22, .string (sb ((List.getD l i itz).s)))] w (by kernel_rfl) (.cons o42 (.cons o43 .nil)) ?_
          refine GoS.call [0, 4, 17] 14 #[.string (sb ((List.getD l i itz).s))] (some 23) [.inRegion (cops (csub (cd Tryd.f17) [1,1,0,1,0,0,1,0,0,1,0,1,1,1,1])) [7,8], .inBlock 2, .inBlock 1, .code (csub (cd Tryd.f17) [1,1,0,1,0,0,1,1]), .inLoop (csub (cd Tryd.f17) [1,1,0,1,0,0]), .inBlock 0, .code (csub (cd Tryd.f17) [1,1,1])] [(0, u), (4, .int .i64 ((i : Nat) : Int)), (17, .string (sb (itsB (List.take i l))))] (by kernel_rfl) (block_c ((List.getD l i itz).s) (by have q := (hw i).2.2; omega) w) ?_
          rintro _ w44 ⟨rfl, m45⟩
          refine ⟨_, rfl, ?_⟩
          have hM46 := Mem.join hM m45
          have hl47 := blk_len ((List.getD l i itz).s)
          have o48 : (binOp .add 9 (.string (sb (itsB (List.take i l)))) (.string (sb (blk ((List.getD l i itz).s))))).run Tryd.prog w44 = .ok (.string (sb ((itsB (List.take i l)) ++ (blk ((List.getD l i itz).s))))) w44 := f_stradd (by have q := (hw i).2.2; have q1 := textB_len (List.getD l i itz).s; have q2 := numB_len (List.getD l i itz).n; have q3 := (its_room (more := []) hw hl (by simp) i).2; have q4 := blk_len (List.getD l i itz).s; first | omega | (rw [bytesOf_len]; omega))
          refine GoS.run [0, 3, 4] [.h (.string (sb ((itsB (List.take i l)) ++ (blk ((List.getD l i itz).s))))), .n, .n] _ [.inBlock 2, .inBlock 1, .code (csub (cd Tryd.f17) [1,1,0,1,0,0,1,1]), .inLoop (csub (cd Tryd.f17) [1,1,0,1,0,0]), .inBlock 0, .code (csub (cd Tryd.f17) [1,1,1])] [(0, u), (3, .string (sb ((itsB (List.take i l)) ++ (blk ((List.getD l i itz).s))))), (4, .int .i64 ((i : Nat) : Int))] w44 (by kernel_rfl) (.cons o48 .nil) ?_
          have o51 : (binOp .add 3 (.int .i64 ((i : Nat) : Int)) (.int .i64 1)).run Tryd.prog w44 = .ok (.int .i64 (((i + 1) : Nat) : Int)) w44 := f_add (by rw [show ((i : Nat) : Int) + 1 = (((i + 1) : Nat) : Int) by omega]; exact IntWalk.i64_in _ (by omega))
          refine GoS.run [0, 3, 4] [.n, .n, .n, .n, .h (.int .i64 (((i + 1) : Nat) : Int)), .n, .n, .n] _ [.code (csub (cd Tryd.f17) [1,1,0,1,0,0]), .inLoop (csub (cd Tryd.f17) [1,1,0,1,0,0]), .inBlock 0, .code (csub (cd Tryd.f17) [1,1,1])] [(0, u), (3, .string (sb ((itsB (List.take i l)) ++ (blk ((List.getD l i itz).s))))), (4, .int .i64 (((i + 1) : Nat) : Int))] w44 (by kernel_rfl) (.cons o51 .nil) ?_
          exact GoS.cast (by rw [its_snoc (show i < l.length by omega), itB, if_neg h10p, if_neg h27p]) (ih (i + 1) _ (by omega) hM46 (by omega))
    ·
      have h2p : ¬ (((i : Nat) : Int) < (((List.length l) : Nat) : Int)) := of_decide_eq_false h2
      refine GoS.run [2] [.n, .n, .n, .n, .n, .n] _ [.code (csub (cd Tryd.f17) [1,1,1,1])] [(2, .string (sb (itsB (List.take i l))))] w (by kernel_rfl) .nil ?_
      refine GoS.ret (fn := Tryd.f17) (v := (.string (sb (itsB (List.take i l))))) Tryd.func17 (by kernel_rfl) ?_
      rw [hR]
      exact ⟨ret_str (by rw [List.take_of_length_le (by omega)]), hM⟩

set_option maxHeartbeats 400000 in
theorem writ_c {w : World} (u : Value) (l : List It) (hw : ∀ j, GoodIt (l.getD j itz)) (hl : l.length ≤ 300) (hu : Rd w 3 u l.length (recs itC l)) :
    Calls Tryd.prog 17 #[u] w (fun e w' => e = .returned (.string (sb (itsB l))) ∧ Mem [] w w' []) := by
  obtain ⟨R, hR⟩ : ∃ R : Ending → World → Prop, R = (fun e w' => e = .returned (.string (sb (itsB l))) ∧ Mem [] w w' []) := ⟨_, rfl⟩
  rw [← hR]
  refine GoS.enter (n := 47) Tryd.func17 (by kernel_rfl) rfl [(0, u)] (by kernel_rfl) (by kernel_rfl) ?_
  have hM0 := Mem.start w
  refine GoS.run [0, 3, 4] [.n, .n, .n, .n, .n, .n, .n, .n, .n, .n, .n, .n, .n, .n, .n] _ [.code (csub (cd Tryd.f17) [1,1,0,1,0,0]), .inLoop (csub (cd Tryd.f17) [1,1,0,1,0,0]), .inBlock 0, .code (csub (cd Tryd.f17) [1,1,1])] [(0, u), (3, .string (sb ([]))), (4, .int .i64 0)] w (by kernel_rfl) .nil ?_
  exact writ_L u l hw hl hu R hR (l.length + 1) 0 w (Nat.zero_le _) hM0 (by omega)


end Go.Proofs.YtmjkbmlcclmdkaaDoor
