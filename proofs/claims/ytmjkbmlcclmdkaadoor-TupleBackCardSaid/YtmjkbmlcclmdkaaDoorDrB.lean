/-
  The walk of TupleBack.
-/
import Derived.Test.YtmjkbmlcclmdkaaDoorItm
namespace Go.Proofs.YtmjkbmlcclmdkaaDoor
open Go Go.Gw Go.NumP Go.CrcP Go.SealP Go.TupP Go.DoorP Go.RowKit
set_option linter.unusedVariables false
set_option linter.unusedSimpArgs false


set_option maxHeartbeats 2000000 in
theorem lback_L {w0 : World} (u : Value) (l : List It) (hw : ∀ j, GoodIt (l.getD j itz)) (hl : l.length ≤ 300) (hu : Rd w0 3 u l.length (recs itC l)) (more : List UInt8) (hm : more.length ≤ 140737488355328) (b : Nat) (R : Ending → World → Prop) (hR : R = (fun e w' => e = .returned (.bool true) ∧ Below w0.heap.size w0 w')) : ∀ (N : Nat) (i : Nat) (w : World) (hi : i ≤ l.length) (hM : Mem [] w0 w [⟨52, 1, (obj b), 1, [.string (sb ((itsB (List.drop i l)) ++ more))]⟩]) (hN : l.length - i < N), GoS Tryd.prog 6 R 89 [.code (csub (cd Tryd.f6) [1,1,1,0,1,0,0]), .inLoop (csub (cd Tryd.f6) [1,1,1,0,1,0,0]), .inBlock 0, .code (csub (cd Tryd.f6) [1,1,1,1])] [(0, u), (1, .string (sb more)), (5, .pointer (some (⟨b, 0, none⟩))), (6, .int .i64 ((i : Nat) : Int))] w := by
  intro N
  induction N with
  | zero => intro i w hi hM hN; exact absurd hN (Nat.not_lt_zero _)
  | succ N ih =>
    intro i w hi hM hN
    have hki := (hw i).1
    have o1 : (Builtin.len_ #[32] 3 #[u]).run Tryd.prog w = .ok (.int .i64 (((List.length l) : Nat) : Int)) w := f_slen sT32 (hu.kept0 hM.kept) 3 _
    refine GoS.run [0, 1, 5, 6, 26] [.n, .n, .n, .n, .n, .h (.int .i64 (((List.length l) : Nat) : Int)), .n, .n] _ [.code (csub (cd Tryd.f6) [1,1,1,0,1,0,0,0,1]), .code (csub (cd Tryd.f6) [1,1,1,0,1,0,0,1]), .inLoop (csub (cd Tryd.f6) [1,1,1,0,1,0,0]), .inBlock 0, .code (csub (cd Tryd.f6) [1,1,1,1])] [(0, u), (1, .string (sb more)), (5, .pointer (some (⟨b, 0, none⟩))), (6, .int .i64 ((i : Nat) : Int)), (26, .bool (decide (((i : Nat) : Int) < (((List.length l) : Nat) : Int))))] w (by kernel_rfl) (.cons o1 .nil) ?_
    refine GoS.cond (decide (((i : Nat) : Int) < (((List.length l) : Nat) : Int))) [.code (csub (cd Tryd.f6) [1,1,1,0,1,0,0,0,1,0]), .code (csub (cd Tryd.f6) [1,1,1,0,1,0,0,1]), .inLoop (csub (cd Tryd.f6) [1,1,1,0,1,0,0]), .inBlock 0, .code (csub (cd Tryd.f6) [1,1,1,1])] [.code (csub (cd Tryd.f6) [1,1,1,0,1,0,0,0,1,1]), .code (csub (cd Tryd.f6) [1,1,1,0,1,0,0,1]), .inLoop (csub (cd Tryd.f6) [1,1,1,0,1,0,0]), .inBlock 0, .code (csub (cd Tryd.f6) [1,1,1,1])] (by kernel_rfl) (fun h2 => ?_) (fun h2 => ?_)
    ·
      have h2p : ((i : Nat) : Int) < (((List.length l) : Nat) : Int) := of_decide_eq_true h2
      refine GoS.run [0, 1, 5, 6] [.n] _ [.code (csub (cd Tryd.f6) [1,1,1,0,1,0,0,1]), .inLoop (csub (cd Tryd.f6) [1,1,1,0,1,0,0]), .inBlock 0, .code (csub (cd Tryd.f6) [1,1,1,1])] [(0, u), (1, .string (sb more)), (5, .pointer (some (⟨b, 0, none⟩))), (6, .int .i64 ((i : Nat) : Int))] w (by kernel_rfl) .nil ?_
      obtain ⟨p8, hp9, hq10⟩ := rd_at (i := ((i : Nat) : Int)) sT32 (hu.kept0 hM.kept) i (by omega) (by first | omega | (dsimp only; omega))
      have o12 : (Instr.indexAt 32 (u) (.int .i64 ((i : Nat) : Int))).run Tryd.prog w = .ok (.pointer (some p8)) w := hq10 _ _
      have hb11 := hw i
      have o13 : (Instr.loadAt 5 (.pointer (some (Addr.add p8 0)))).run Tryd.prog w = .ok (.int .u8 ((List.getD l i itz).kind)) w := c_load pE5 (hu.kept0 hM.kept) (Cel.add (At.cel hp9) 0) (recs_at (i := 0) itC_len itz (by first | omega | (dsimp only; omega)) rfl)
      have o14 : (binOp .rem 5 (.int .u8 ((List.getD l i itz).kind)) (.int .u8 3)).run Tryd.prog w = .ok (.int .u8 (((List.getD l i itz).kind) % 3)) w := f_rem (by decide) (IntWalk.rem_in _ _ (by omega))
      refine GoS.run [0, 1, 5, 6, 7, 8, 34, 40] [.n, .n, .n, .n, .n, .n, .n, .n, .n, .n, .n, .n, .n, .h (.pointer (some p8)), .n, .h (.int .u8 ((List.getD l i itz).kind)), .h (.int .u8 (((List.getD l i itz).kind) % 3)), .n, .n, .n, .n, .n, .n, .n] _ [.code (csub (cd Tryd.f6) [1,1,1,0,1,0,0,1,0,0,1,0,1,0,1]), .inBlock 2, .code (csub (cd Tryd.f6) [1,1,1,0,1,0,0,1,0,0,1,1]), .inBlock 1, .code (csub (cd Tryd.f6) [1,1,1,0,1,0,0,1,1]), .inLoop (csub (cd Tryd.f6) [1,1,1,0,1,0,0]), .inBlock 0, .code (csub (cd Tryd.f6) [1,1,1,1])] [(0, u), (1, .string (sb more)), (5, .pointer (some (⟨b, 0, none⟩))), (6, .int .i64 ((i : Nat) : Int)), (7, .int .i64 0), (8, .string (sb ([]))), (34, .int .u8 (((List.getD l i itz).kind) % 3)), (40, .bool ((((List.getD l i itz).kind) % 3) == 0))] w (by kernel_rfl) (.cons o12 (.cons o13 (.cons o14 .nil))) ?_
      refine GoS.cond ((((List.getD l i itz).kind) % 3) == 0) [.code (csub (cd Tryd.f6) [1,1,1,0,1,0,0,1,0,0,1,0,1,0,1,0]), .inBlock 2, .code (csub (cd Tryd.f6) [1,1,1,0,1,0,0,1,0,0,1,1]), .inBlock 1, .code (csub (cd Tryd.f6) [1,1,1,0,1,0,0,1,1]), .inLoop (csub (cd Tryd.f6) [1,1,1,0,1,0,0]), .inBlock 0, .code (csub (cd Tryd.f6) [1,1,1,1])] [.code (csub (cd Tryd.f6) [1,1,1,0,1,0,0,1,0,0,1,0,1,0,1,1]), .inBlock 2, .code (csub (cd Tryd.f6) [1,1,1,0,1,0,0,1,0,0,1,1]), .inBlock 1, .code (csub (cd Tryd.f6) [1,1,1,0,1,0,0,1,1]), .inLoop (csub (cd Tryd.f6) [1,1,1,0,1,0,0]), .inBlock 0, .code (csub (cd Tryd.f6) [1,1,1,1])] (by kernel_rfl) (fun h15 => ?_) (fun h15 => ?_)
      ·
        have h15p : (((List.getD l i itz).kind) % 3) = 0 := eq_of_beq h15
        refine GoS.run [0, 1, 5, 6, 8, 43] [.n, .n, .n] _ [.inRegion (cops (csub (cd Tryd.f6) [1,1,1,0,1,0,0,1,0,0,1,0,1,0,1,0,0])) [1,2,3,4,5,6], .code (csub (cd Tryd.f6) [1,1,1,0,1,0,0,1,0,0,1,0,1,0,1,0,1]), .inBlock 2, .code (csub (cd Tryd.f6) [1,1,1,0,1,0,0,1,0,0,1,1]), .inBlock 1, .code (csub (cd Tryd.f6) [1,1,1,0,1,0,0,1,1]), .inLoop (csub (cd Tryd.f6) [1,1,1,0,1,0,0]), .inBlock 0, .code (csub (cd Tryd.f6) [1,1,1,1])] [(0, u), (1, .string (sb more)), (5, .pointer (some (⟨b, 0, none⟩))), (6, .int .i64 ((i : Nat) : Int)), (8, .string (sb ([]))), (43, .pointer (some (⟨b, 0, none⟩)))] w (by kernel_rfl) .nil ?_
        refine GoS.call [0, 1, 5, 6, 8] 18 #[.pointer (some (⟨b, 0, none⟩))] (some 44) [.inRegion (cops (csub (cd Tryd.f6) [1,1,1,0,1,0,0,1,0,0,1,0,1,0,1,0,0])) [2,3,4,5,6], .code (csub (cd Tryd.f6) [1,1,1,0,1,0,0,1,0,0,1,0,1,0,1,0,1]), .inBlock 2, .code (csub (cd Tryd.f6) [1,1,1,0,1,0,0,1,0,0,1,1]), .inBlock 1, .code (csub (cd Tryd.f6) [1,1,1,0,1,0,0,1,1]), .inLoop (csub (cd Tryd.f6) [1,1,1,0,1,0,0]), .inBlock 0, .code (csub (cd Tryd.f6) [1,1,1,1])] [(0, u), (1, .string (sb more)), (5, .pointer (some (⟨b, 0, none⟩))), (6, .int .i64 ((i : Nat) : Int)), (8, .string (sb ([])))] (by kernel_rfl) (cnum_c ((itsB (List.drop i l)) ++ more) b w (Mem.lend (R := [⟨52, 1, (obj b), 1, [.string (sb ((itsB (List.drop i l)) ++ more))]⟩]) (L := []) hM)) ?_
        rintro _ w16 ⟨rfl, m17⟩
        refine ⟨_, rfl, ?_⟩
        have hM18 : Mem [] w0 w16 [⟨52, 1, (obj b), 1, [.string (sb (numR ((itsB (List.drop i l)) ++ more)))]⟩] := Mem.back (R := [⟨52, 1, (obj b), 1, [.string (sb ((itsB (List.drop i l)) ++ more))]⟩]) (L := []) hM m17
        obtain ⟨p19, hp20, hq21⟩ := rd_at (i := ((i : Nat) : Int)) sT32 (hu.kept0 hM18.kept) i (by omega) (by first | omega | (dsimp only; omega))
        have o23 : (Instr.indexAt 32 (u) (.int .i64 ((i : Nat) : Int))).run Tryd.prog w16 = .ok (.pointer (some p19)) w16 := hq21 _ _
        have hb22 := hw i
        have o24 : (Instr.loadAt 3 (.pointer (some (Addr.add p19 1)))).run Tryd.prog w16 = .ok (.int .i64 ((List.getD l i itz).n)) w16 := c_load pE3 (hu.kept0 hM18.kept) (Cel.add (At.cel hp20) 1) (recs_at (i := 1) itC_len itz (by first | omega | (dsimp only; omega)) rfl)
        have o25 : (binOp .sub 3 (.int .i64 ((numP ((itsB (List.drop i l)) ++ more)).1)) (.int .i64 ((List.getD l i itz).n))).run Tryd.prog w16 = .ok (.int .i64 0) w16 := f_sub (by rw [(back_num (more := more) (show i < l.length by omega) (hw i) (by omega)).1, Int.sub_self]; rfl)
        refine GoS.run [0, 1, 5, 6, 7, 8, 9] [.n, .n, .n, .n, .n, .n, .n, .n, .n, .n, .h (.pointer (some p19)), .n, .h (.int .i64 ((List.getD l i itz).n)), .h (.int .i64 0), .n, .n] _ [.inBlock 2, .code (csub (cd Tryd.f6) [1,1,1,0,1,0,0,1,0,0,1,1]), .inBlock 1, .code (csub (cd Tryd.f6) [1,1,1,0,1,0,0,1,1]), .inLoop (csub (cd Tryd.f6) [1,1,1,0,1,0,0]), .inBlock 0, .code (csub (cd Tryd.f6) [1,1,1,1])] [(0, u), (1, .string (sb more)), (5, .pointer (some (⟨b, 0, none⟩))), (6, .int .i64 ((i : Nat) : Int)), (7, .int .i64 0), (8, .string (sb ([]))), (9, .int .i64 ((numP ((itsB (List.drop i l)) ++ more)).2.2))] w16 (by kernel_rfl) (.cons o23 (.cons o24 (.cons o25 .nil))) ?_
        have o38 : (IntKind.i64 = IntKind.i64) ∧ w16 = w16 ∧ Value.bool false = .bool ((numP ((itsB (List.drop i l)) ++ more)).2.2 != 0) := ⟨rfl, rfl, congrArg Value.bool (Eq.symm (bne_eq_false_iff_eq.2 (back_num (more := more) (show i < l.length by omega) (hw i) (by omega)).2.1))⟩
        obtain ⟨p34, hp35, hq36⟩ := rd_at (i := ((i : Nat) : Int)) sT32 (hu.kept0 hM18.kept) i (by omega) (by first | omega | (dsimp only; omega))
        have o39 : (Instr.indexAt 32 (u) (.int .i64 ((i : Nat) : Int))).run Tryd.prog w16 = .ok (.pointer (some p34)) w16 := hq36 _ _
        have hb37 := hw i
        have o40 : (Instr.loadAt 5 (.pointer (some (Addr.add p34 0)))).run Tryd.prog w16 = .ok (.int .u8 ((List.getD l i itz).kind)) w16 := c_load pE5 (hu.kept0 hM18.kept) (Cel.add (At.cel hp35) 0) (recs_at (i := 0) itC_len itz (by first | omega | (dsimp only; omega)) rfl)
        have o41 : (binOp .rem 5 (.int .u8 ((List.getD l i itz).kind)) (.int .u8 3)).run Tryd.prog w16 = .ok (.int .u8 (((List.getD l i itz).kind) % 3)) w16 := f_rem (by decide) (IntWalk.rem_in _ _ (by omega))
        refine GoS.run [0, 1, 5, 6, 8, 67, 75] [.n, .n, .n, .n, .h (.bool false), .n, .n, .n, .n, .n, .n, .n, .h (.pointer (some p34)), .n, .h (.int .u8 ((List.getD l i itz).kind)), .h (.int .u8 (((List.getD l i itz).kind) % 3)), .n, .n] _ [.inRegion (cops (csub (cd Tryd.f6) [1,1,1,0,1,0,0,1,0,0,1,1,0])) [15,16,17,18,19,20,21,22,23], .code (csub (cd Tryd.f6) [1,1,1,0,1,0,0,1,0,0,1,1,1]), .inBlock 1, .code (csub (cd Tryd.f6) [1,1,1,0,1,0,0,1,1]), .inLoop (csub (cd Tryd.f6) [1,1,1,0,1,0,0]), .inBlock 0, .code (csub (cd Tryd.f6) [1,1,1,1])] [(0, u), (1, .string (sb more)), (5, .pointer (some (⟨b, 0, none⟩))), (6, .int .i64 ((i : Nat) : Int)), (8, .string (sb ([]))), (67, .bool false), (75, .bool (decide ((((List.getD l i itz).kind) % 3) > 0)))] w16 (by kernel_rfl) (.cons o38 (.cons o39 (.cons o40 (.cons o41 .nil)))) ?_
        refine GoS.fork 75 (decide ((((List.getD l i itz).kind) % 3) > 0)) (by kernel_rfl) (fun h42 => ?_) (fun h42 => ?_)
        ·
          exact absurd (of_decide_eq_true h42) (by omega)
        ·
          have h42p : ¬ ((((List.getD l i itz).kind) % 3) > 0) := of_decide_eq_false h42
          refine GoS.run [0, 1, 5, 6, 84] [.n, .n, .n, .n, .n, .n, .n, .n, .n] _ [.inRegion (cops (csub (cd Tryd.f6) [1,1,1,0,1,0,0,1,0,0,1,1,0])) [], .code (csub (cd Tryd.f6) [1,1,1,0,1,0,0,1,0,0,1,1,1]), .inBlock 1, .code (csub (cd Tryd.f6) [1,1,1,0,1,0,0,1,1]), .inLoop (csub (cd Tryd.f6) [1,1,1,0,1,0,0]), .inBlock 0, .code (csub (cd Tryd.f6) [1,1,1,1])] [(0, u), (1, .string (sb more)), (5, .pointer (some (⟨b, 0, none⟩))), (6, .int .i64 ((i : Nat) : Int)), (84, .bool false)] w16 (by kernel_rfl) .nil ?_
          have o43 : (binOp .add 3 (.int .i64 ((i : Nat) : Int)) (.int .i64 1)).run Tryd.prog w16 = .ok (.int .i64 (((i + 1) : Nat) : Int)) w16 := f_add (by rw [show ((i : Nat) : Int) + 1 = (((i + 1) : Nat) : Int) by omega]; exact IntWalk.i64_in _ (by omega))
          refine GoS.run [0, 1, 5, 6] [.n, .n, .n, .n, .n, .n, .h (.int .i64 (((i + 1) : Nat) : Int)), .n, .n, .n] _ [.code (csub (cd Tryd.f6) [1,1,1,0,1,0,0]), .inLoop (csub (cd Tryd.f6) [1,1,1,0,1,0,0]), .inBlock 0, .code (csub (cd Tryd.f6) [1,1,1,1])] [(0, u), (1, .string (sb more)), (5, .pointer (some (⟨b, 0, none⟩))), (6, .int .i64 (((i + 1) : Nat) : Int))] w16 (by kernel_rfl) (.cons o43 .nil) ?_
          exact ih (i + 1) w16 (by omega) ((hM18.sub (List.Sublist.cons_cons _ (List.nil_sublist _))).cast (by rw [(back_num (more := more) (show i < l.length by omega) (hw i) (by omega)).2.2])) (by omega)
      ·
        have h15p : ¬ ((((List.getD l i itz).kind) % 3) = 0) := p_ne h15
        refine GoS.run [0, 1, 5, 6, 7, 54] [.n, .n, .n, .n, .n] _ [.code (csub (cd Tryd.f6) [1,1,1,0,1,0,0,1,0,0,1,0,1,0,1,1,1]), .inBlock 2, .code (csub (cd Tryd.f6) [1,1,1,0,1,0,0,1,0,0,1,1]), .inBlock 1, .code (csub (cd Tryd.f6) [1,1,1,0,1,0,0,1,1]), .inLoop (csub (cd Tryd.f6) [1,1,1,0,1,0,0]), .inBlock 0, .code (csub (cd Tryd.f6) [1,1,1,1])] [(0, u), (1, .string (sb more)), (5, .pointer (some (⟨b, 0, none⟩))), (6, .int .i64 ((i : Nat) : Int)), (7, .int .i64 0), (54, .bool ((((List.getD l i itz).kind) % 3) == 1))] w (by kernel_rfl) .nil ?_
        refine GoS.cond ((((List.getD l i itz).kind) % 3) == 1) [.code (csub (cd Tryd.f6) [1,1,1,0,1,0,0,1,0,0,1,0,1,0,1,1,1,0]), .inBlock 2, .code (csub (cd Tryd.f6) [1,1,1,0,1,0,0,1,0,0,1,1]), .inBlock 1, .code (csub (cd Tryd.f6) [1,1,1,0,1,0,0,1,1]), .inLoop (csub (cd Tryd.f6) [1,1,1,0,1,0,0]), .inBlock 0, .code (csub (cd Tryd.f6) [1,1,1,1])] [.code (csub (cd Tryd.f6) [1,1,1,0,1,0,0,1,0,0,1,0,1,0,1,1,1,1]), .inBlock 2, .code (csub (cd Tryd.f6) [1,1,1,0,1,0,0,1,0,0,1,1]), .inBlock 1, .code (csub (cd Tryd.f6) [1,1,1,0,1,0,0,1,1]), .inLoop (csub (cd Tryd.f6) [1,1,1,0,1,0,0]), .inBlock 0, .code (csub (cd Tryd.f6) [1,1,1,1])] (by kernel_rfl) (fun h26 => ?_) (fun h26 => ?_)
        ·
          have h26p : (((List.getD l i itz).kind) % 3) = 1 := eq_of_beq h26
          refine GoS.run [0, 1, 5, 6, 7, 57] [.n, .n] _ [.inRegion (cops (csub (cd Tryd.f6) [1,1,1,0,1,0,0,1,0,0,1,0,1,0,1,1,1,0])) [1,2,3,4,5,6], .inBlock 2, .code (csub (cd Tryd.f6) [1,1,1,0,1,0,0,1,0,0,1,1]), .inBlock 1, .code (csub (cd Tryd.f6) [1,1,1,0,1,0,0,1,1]), .inLoop (csub (cd Tryd.f6) [1,1,1,0,1,0,0]), .inBlock 0, .code (csub (cd Tryd.f6) [1,1,1,1])] [(0, u), (1, .string (sb more)), (5, .pointer (some (⟨b, 0, none⟩))), (6, .int .i64 ((i : Nat) : Int)), (7, .int .i64 0), (57, .pointer (some (⟨b, 0, none⟩)))] w (by kernel_rfl) .nil ?_
          refine GoS.call [0, 1, 5, 6, 7] 19 #[.pointer (some (⟨b, 0, none⟩))] (some 58) [.inRegion (cops (csub (cd Tryd.f6) [1,1,1,0,1,0,0,1,0,0,1,0,1,0,1,1,1,0])) [2,3,4,5,6], .inBlock 2, .code (csub (cd Tryd.f6) [1,1,1,0,1,0,0,1,0,0,1,1]), .inBlock 1, .code (csub (cd Tryd.f6) [1,1,1,0,1,0,0,1,1]), .inLoop (csub (cd Tryd.f6) [1,1,1,0,1,0,0]), .inBlock 0, .code (csub (cd Tryd.f6) [1,1,1,1])] [(0, u), (1, .string (sb more)), (5, .pointer (some (⟨b, 0, none⟩))), (6, .int .i64 ((i : Nat) : Int)), (7, .int .i64 0)] (by kernel_rfl) (ctext_c ((itsB (List.drop i l)) ++ more) b (by have q := (its_room hw hl hm i).1; rw [List.length_append]; omega) (by exact .inr ⟨(back_text (more := more) (show i < l.length by omega) (by omega)).2.1, by rw [(back_text (more := more) (show i < l.length by omega) (by omega)).1]; have q := (hw i).2.2; omega⟩) w (Mem.lend (R := [⟨52, 1, (obj b), 1, [.string (sb ((itsB (List.drop i l)) ++ more))]⟩]) (L := []) hM)) ?_
          rintro _ w27 ⟨rfl, m28⟩
          refine ⟨_, rfl, ?_⟩
          have hM29 : Mem [] w0 w27 [⟨52, 1, (obj b), 1, [.string (sb (txR ((itsB (List.drop i l)) ++ more)))]⟩] := Mem.back (R := [⟨52, 1, (obj b), 1, [.string (sb ((itsB (List.drop i l)) ++ more))]⟩]) (L := []) hM m28
          have htx30 := txN_le ((itsB (List.drop i l)) ++ more)
          refine GoS.run [0, 1, 5, 6, 7, 8, 9] [.n, .n, .n, .n, .n, .n] _ [.inBlock 2, .code (csub (cd Tryd.f6) [1,1,1,0,1,0,0,1,0,0,1,1]), .inBlock 1, .code (csub (cd Tryd.f6) [1,1,1,0,1,0,0,1,1]), .inLoop (csub (cd Tryd.f6) [1,1,1,0,1,0,0]), .inBlock 0, .code (csub (cd Tryd.f6) [1,1,1,1])] [(0, u), (1, .string (sb more)), (5, .pointer (some (⟨b, 0, none⟩))), (6, .int .i64 ((i : Nat) : Int)), (7, .int .i64 0), (8, .string (sb (txS ((itsB (List.drop i l)) ++ more)))), (9, .int .i64 (txE ((itsB (List.drop i l)) ++ more)))] w27 (by kernel_rfl) .nil ?_
          have o48 : (IntKind.i64 = IntKind.i64) ∧ w27 = w27 ∧ Value.bool false = .bool ((txE ((itsB (List.drop i l)) ++ more)) != 0) := ⟨rfl, rfl, congrArg Value.bool (Eq.symm (bne_eq_false_iff_eq.2 (back_text (more := more) (show i < l.length by omega) (by omega)).2.1))⟩
          obtain ⟨p44, hp45, hq46⟩ := rd_at (i := ((i : Nat) : Int)) sT32 (hu.kept0 hM29.kept) i (by omega) (by first | omega | (dsimp only; omega))
          have o49 : (Instr.indexAt 32 (u) (.int .i64 ((i : Nat) : Int))).run Tryd.prog w27 = .ok (.pointer (some p44)) w27 := hq46 _ _
          have hb47 := hw i
          have o50 : (Instr.loadAt 5 (.pointer (some (Addr.add p44 0)))).run Tryd.prog w27 = .ok (.int .u8 ((List.getD l i itz).kind)) w27 := c_load pE5 (hu.kept0 hM29.kept) (Cel.add (At.cel hp45) 0) (recs_at (i := 0) itC_len itz (by first | omega | (dsimp only; omega)) rfl)
          have o51 : (binOp .rem 5 (.int .u8 ((List.getD l i itz).kind)) (.int .u8 3)).run Tryd.prog w27 = .ok (.int .u8 (((List.getD l i itz).kind) % 3)) w27 := f_rem (by decide) (IntWalk.rem_in _ _ (by omega))
          refine GoS.run [0, 1, 5, 6, 8, 67, 75] [.n, .n, .n, .n, .h (.bool false), .n, .n, .n, .n, .n, .n, .n, .h (.pointer (some p44)), .n, .h (.int .u8 ((List.getD l i itz).kind)), .h (.int .u8 (((List.getD l i itz).kind) % 3)), .n, .n] _ [.inRegion (cops (csub (cd Tryd.f6) [1,1,1,0,1,0,0,1,0,0,1,1,0])) [15,16,17,18,19,20,21,22,23], .code (csub (cd Tryd.f6) [1,1,1,0,1,0,0,1,0,0,1,1,1]), .inBlock 1, .code (csub (cd Tryd.f6) [1,1,1,0,1,0,0,1,1]), .inLoop (csub (cd Tryd.f6) [1,1,1,0,1,0,0]), .inBlock 0, .code (csub (cd Tryd.f6) [1,1,1,1])] [(0, u), (1, .string (sb more)), (5, .pointer (some (⟨b, 0, none⟩))), (6, .int .i64 ((i : Nat) : Int)), (8, .string (sb (txS ((itsB (List.drop i l)) ++ more)))), (67, .bool false), (75, .bool (decide ((((List.getD l i itz).kind) % 3) > 0)))] w27 (by kernel_rfl) (.cons o48 (.cons o49 (.cons o50 (.cons o51 .nil)))) ?_
          refine GoS.fork 75 (decide ((((List.getD l i itz).kind) % 3) > 0)) (by kernel_rfl) (fun h52 => ?_) (fun h52 => ?_)
          ·
            have h52p : (((List.getD l i itz).kind) % 3) > 0 := of_decide_eq_true h52
            obtain ⟨p53, hp54, hq55⟩ := rd_at (i := ((i : Nat) : Int)) sT32 (hu.kept0 hM29.kept) i (by omega) (by first | omega | (dsimp only; omega))
            have o57 : (Instr.indexAt 32 (u) (.int .i64 ((i : Nat) : Int))).run Tryd.prog w27 = .ok (.pointer (some p53)) w27 := hq55 _ _
            have hb56 := hw i
            have o58 : (Instr.loadAt 9 (.pointer (some (Addr.add p53 2)))).run Tryd.prog w27 = .ok (.string (sb ((List.getD l i itz).s))) w27 := c_load pE9 (hu.kept0 hM29.kept) (Cel.add (At.cel hp54) 2) (recs_at (i := 2) itC_len itz (by first | omega | (dsimp only; omega)) rfl)
            have o59 : (binOp .neq 9 (.string (sb (txS ((itsB (List.drop i l)) ++ more)))) (.string (sb ((List.getD l i itz).s)))).run Tryd.prog w27 = .ok (.bool false) w27 := f_strneq_yes ((back_text (more := more) (show i < l.length by omega) (by omega)).1)
            refine GoS.run [0, 1, 5, 6, 84] [.n, .n, .n, .h (.pointer (some p53)), .n, .h (.string (sb ((List.getD l i itz).s))), .h (.bool false), .n, .n] _ [.inRegion (cops (csub (cd Tryd.f6) [1,1,1,0,1,0,0,1,0,0,1,1,0])) [], .code (csub (cd Tryd.f6) [1,1,1,0,1,0,0,1,0,0,1,1,1]), .inBlock 1, .code (csub (cd Tryd.f6) [1,1,1,0,1,0,0,1,1]), .inLoop (csub (cd Tryd.f6) [1,1,1,0,1,0,0]), .inBlock 0, .code (csub (cd Tryd.f6) [1,1,1,1])] [(0, u), (1, .string (sb more)), (5, .pointer (some (⟨b, 0, none⟩))), (6, .int .i64 ((i : Nat) : Int)), (84, .bool false)] w27 (by kernel_rfl) (.cons o57 (.cons o58 (.cons o59 .nil))) ?_
            have o60 : (binOp .add 3 (.int .i64 ((i : Nat) : Int)) (.int .i64 1)).run Tryd.prog w27 = .ok (.int .i64 (((i + 1) : Nat) : Int)) w27 := f_add (by rw [show ((i : Nat) : Int) + 1 = (((i + 1) : Nat) : Int) by omega]; exact IntWalk.i64_in _ (by omega))
            refine GoS.run [0, 1, 5, 6] [.n, .n, .n, .n, .n, .n, .h (.int .i64 (((i + 1) : Nat) : Int)), .n, .n, .n] _ [.code (csub (cd Tryd.f6) [1,1,1,0,1,0,0]), .inLoop (csub (cd Tryd.f6) [1,1,1,0,1,0,0]), .inBlock 0, .code (csub (cd Tryd.f6) [1,1,1,1])] [(0, u), (1, .string (sb more)), (5, .pointer (some (⟨b, 0, none⟩))), (6, .int .i64 (((i + 1) : Nat) : Int))] w27 (by kernel_rfl) (.cons o60 .nil) ?_
            exact ih (i + 1) w27 (by omega) ((hM29.sub (List.Sublist.cons_cons _ (List.nil_sublist _))).cast (by rw [(back_text (more := more) (show i < l.length by omega) (by omega)).2.2])) (by omega)
          ·
            exact absurd (of_decide_eq_false h52) (by omega)
        ·
          have h26p : ¬ ((((List.getD l i itz).kind) % 3) = 1) := p_ne h26
          refine GoS.run [0, 1, 5, 6, 7, 36] [.n, .n] _ [.inRegion (cops (csub (cd Tryd.f6) [1,1,1,0,1,0,0,1,0,0,1,0,1,0,1,1,1,1])) [1,2,3,4,5,6], .inBlock 2, .code (csub (cd Tryd.f6) [1,1,1,0,1,0,0,1,0,0,1,1]), .inBlock 1, .code (csub (cd Tryd.f6) [1,1,1,0,1,0,0,1,1]), .inLoop (csub (cd Tryd.f6) [1,1,1,0,1,0,0]), .inBlock 0, .code (csub (cd Tryd.f6) [1,1,1,1])] [(0, u), (1, .string (sb more)), (5, .pointer (some (⟨b, 0, none⟩))), (6, .int .i64 ((i : Nat) : Int)), (7, .int .i64 0), (36, .pointer (some (⟨b, 0, none⟩)))] w (by kernel_rfl) .nil ?_
          refine GoS.call [0, 1, 5, 6, 7] 20 #[.pointer (some (⟨b, 0, none⟩))] (some 37) [.inRegion (cops (csub (cd Tryd.f6) [1,1,1,0,1,0,0,1,0,0,1,0,1,0,1,1,1,1])) [2,3,4,5,6], .inBlock 2, .code (csub (cd Tryd.f6) [1,1,1,0,1,0,0,1,0,0,1,1]), .inBlock 1, .code (csub (cd Tryd.f6) [1,1,1,0,1,0,0,1,1]), .inLoop (csub (cd Tryd.f6) [1,1,1,0,1,0,0]), .inBlock 0, .code (csub (cd Tryd.f6) [1,1,1,1])] [(0, u), (1, .string (sb more)), (5, .pointer (some (⟨b, 0, none⟩))), (6, .int .i64 ((i : Nat) : Int)), (7, .int .i64 0)] (by kernel_rfl) (cblock_c ((itsB (List.drop i l)) ++ more) b w (Mem.lend (R := [⟨52, 1, (obj b), 1, [.string (sb ((itsB (List.drop i l)) ++ more))]⟩]) (L := []) hM)) ?_
          rintro _ w31 ⟨rfl, m32⟩
          refine ⟨_, rfl, ?_⟩
          have hM33 : Mem [] w0 w31 [⟨52, 1, (obj b), 1, [.string (sb (blkR ((itsB (List.drop i l)) ++ more)))]⟩] := Mem.back (R := [⟨52, 1, (obj b), 1, [.string (sb ((itsB (List.drop i l)) ++ more))]⟩]) (L := []) hM m32
          refine GoS.run [0, 1, 5, 6, 7, 8, 9] [.n, .n, .n, .n, .n, .n] _ [.inBlock 2, .code (csub (cd Tryd.f6) [1,1,1,0,1,0,0,1,0,0,1,1]), .inBlock 1, .code (csub (cd Tryd.f6) [1,1,1,0,1,0,0,1,1]), .inLoop (csub (cd Tryd.f6) [1,1,1,0,1,0,0]), .inBlock 0, .code (csub (cd Tryd.f6) [1,1,1,1])] [(0, u), (1, .string (sb more)), (5, .pointer (some (⟨b, 0, none⟩))), (6, .int .i64 ((i : Nat) : Int)), (7, .int .i64 0), (8, .string (sb (blkS ((itsB (List.drop i l)) ++ more)))), (9, .int .i64 (blkE ((itsB (List.drop i l)) ++ more)))] w31 (by kernel_rfl) .nil ?_
          have o65 : (IntKind.i64 = IntKind.i64) ∧ w31 = w31 ∧ Value.bool false = .bool ((blkE ((itsB (List.drop i l)) ++ more)) != 0) := ⟨rfl, rfl, congrArg Value.bool (Eq.symm (bne_eq_false_iff_eq.2 (back_blk (more := more) (show i < l.length by omega) (hw i) (by omega) (by omega)).2.1))⟩
          obtain ⟨p61, hp62, hq63⟩ := rd_at (i := ((i : Nat) : Int)) sT32 (hu.kept0 hM33.kept) i (by omega) (by first | omega | (dsimp only; omega))
          have o66 : (Instr.indexAt 32 (u) (.int .i64 ((i : Nat) : Int))).run Tryd.prog w31 = .ok (.pointer (some p61)) w31 := hq63 _ _
          have hb64 := hw i
          have o67 : (Instr.loadAt 5 (.pointer (some (Addr.add p61 0)))).run Tryd.prog w31 = .ok (.int .u8 ((List.getD l i itz).kind)) w31 := c_load pE5 (hu.kept0 hM33.kept) (Cel.add (At.cel hp62) 0) (recs_at (i := 0) itC_len itz (by first | omega | (dsimp only; omega)) rfl)
          have o68 : (binOp .rem 5 (.int .u8 ((List.getD l i itz).kind)) (.int .u8 3)).run Tryd.prog w31 = .ok (.int .u8 (((List.getD l i itz).kind) % 3)) w31 := f_rem (by decide) (IntWalk.rem_in _ _ (by omega))
          refine GoS.run [0, 1, 5, 6, 8, 67, 75] [.n, .n, .n, .n, .h (.bool false), .n, .n, .n, .n, .n, .n, .n, .h (.pointer (some p61)), .n, .h (.int .u8 ((List.getD l i itz).kind)), .h (.int .u8 (((List.getD l i itz).kind) % 3)), .n, .n] _ [.inRegion (cops (csub (cd Tryd.f6) [1,1,1,0,1,0,0,1,0,0,1,1,0])) [15,16,17,18,19,20,21,22,23], .code (csub (cd Tryd.f6) [1,1,1,0,1,0,0,1,0,0,1,1,1]), .inBlock 1, .code (csub (cd Tryd.f6) [1,1,1,0,1,0,0,1,1]), .inLoop (csub (cd Tryd.f6) [1,1,1,0,1,0,0]), .inBlock 0, .code (csub (cd Tryd.f6) [1,1,1,1])] [(0, u), (1, .string (sb more)), (5, .pointer (some (⟨b, 0, none⟩))), (6, .int .i64 ((i : Nat) : Int)), (8, .string (sb (blkS ((itsB (List.drop i l)) ++ more)))), (67, .bool false), (75, .bool (decide ((((List.getD l i itz).kind) % 3) > 0)))] w31 (by kernel_rfl) (.cons o65 (.cons o66 (.cons o67 (.cons o68 .nil)))) ?_
          refine GoS.fork 75 (decide ((((List.getD l i itz).kind) % 3) > 0)) (by kernel_rfl) (fun h69 => ?_) (fun h69 => ?_)
          ·
            have h69p : (((List.getD l i itz).kind) % 3) > 0 := of_decide_eq_true h69
            obtain ⟨p70, hp71, hq72⟩ := rd_at (i := ((i : Nat) : Int)) sT32 (hu.kept0 hM33.kept) i (by omega) (by first | omega | (dsimp only; omega))
            have o74 : (Instr.indexAt 32 (u) (.int .i64 ((i : Nat) : Int))).run Tryd.prog w31 = .ok (.pointer (some p70)) w31 := hq72 _ _
            have hb73 := hw i
            have o75 : (Instr.loadAt 9 (.pointer (some (Addr.add p70 2)))).run Tryd.prog w31 = .ok (.string (sb ((List.getD l i itz).s))) w31 := c_load pE9 (hu.kept0 hM33.kept) (Cel.add (At.cel hp71) 2) (recs_at (i := 2) itC_len itz (by first | omega | (dsimp only; omega)) rfl)
            have o76 : (binOp .neq 9 (.string (sb (blkS ((itsB (List.drop i l)) ++ more)))) (.string (sb ((List.getD l i itz).s)))).run Tryd.prog w31 = .ok (.bool false) w31 := f_strneq_yes ((back_blk (more := more) (show i < l.length by omega) (hw i) (by omega) (by omega)).1)
            refine GoS.run [0, 1, 5, 6, 84] [.n, .n, .n, .h (.pointer (some p70)), .n, .h (.string (sb ((List.getD l i itz).s))), .h (.bool false), .n, .n] _ [.inRegion (cops (csub (cd Tryd.f6) [1,1,1,0,1,0,0,1,0,0,1,1,0])) [], .code (csub (cd Tryd.f6) [1,1,1,0,1,0,0,1,0,0,1,1,1]), .inBlock 1, .code (csub (cd Tryd.f6) [1,1,1,0,1,0,0,1,1]), .inLoop (csub (cd Tryd.f6) [1,1,1,0,1,0,0]), .inBlock 0, .code (csub (cd Tryd.f6) [1,1,1,1])] [(0, u), (1, .string (sb more)), (5, .pointer (some (⟨b, 0, none⟩))), (6, .int .i64 ((i : Nat) : Int)), (84, .bool false)] w31 (by kernel_rfl) (.cons o74 (.cons o75 (.cons o76 .nil))) ?_
            have o77 : (binOp .add 3 (.int .i64 ((i : Nat) : Int)) (.int .i64 1)).run Tryd.prog w31 = .ok (.int .i64 (((i + 1) : Nat) : Int)) w31 := f_add (by rw [show ((i : Nat) : Int) + 1 = (((i + 1) : Nat) : Int) by omega]; exact IntWalk.i64_in _ (by omega))
            refine GoS.run [0, 1, 5, 6] [.n, .n, .n, .n, .n, .n, .h (.int .i64 (((i + 1) : Nat) : Int)), .n, .n, .n] _ [.code (csub (cd Tryd.f6) [1,1,1,0,1,0,0]), .inLoop (csub (cd Tryd.f6) [1,1,1,0,1,0,0]), .inBlock 0, .code (csub (cd Tryd.f6) [1,1,1,1])] [(0, u), (1, .string (sb more)), (5, .pointer (some (⟨b, 0, none⟩))), (6, .int .i64 (((i + 1) : Nat) : Int))] w31 (by kernel_rfl) (.cons o77 .nil) ?_
            exact ih (i + 1) w31 (by omega) ((hM33.sub (List.Sublist.cons_cons _ (List.nil_sublist _))).cast (by rw [(back_blk (more := more) (show i < l.length by omega) (hw i) (by omega) (by omega)).2.2])) (by omega)
          ·
            exact absurd (of_decide_eq_false h69) (by omega)
    ·
      have h2p : ¬ (((i : Nat) : Int) < (((List.length l) : Nat) : Int)) := of_decide_eq_false h2
      refine GoS.run [1, 85] [.n, .n, .n, .n] _ [.inRegion (cops (csub (cd Tryd.f6) [1,1,1,1,0])) [1,2,3,4], .code (csub (cd Tryd.f6) [1,1,1,1,1])] [(1, .string (sb more)), (85, .pointer (some (⟨b, 0, none⟩)))] w (by kernel_rfl) .nil ?_
      refine GoS.call [1] 21 #[.pointer (some (⟨b, 0, none⟩))] (some 86) [.inRegion (cops (csub (cd Tryd.f6) [1,1,1,1,0])) [2,3,4], .code (csub (cd Tryd.f6) [1,1,1,1,1])] [(1, .string (sb more))] (by kernel_rfl) (crest_c ((itsB (List.drop i l)) ++ more) b w (Mem.lend (R := [⟨52, 1, (obj b), 1, [.string (sb ((itsB (List.drop i l)) ++ more))]⟩]) (L := []) hM)) ?_
      rintro _ w3 ⟨rfl, m4⟩
      refine ⟨_, rfl, ?_⟩
      have hM5 : Mem [] w0 w3 [⟨52, 1, (obj b), 1, [.string (sb ((itsB (List.drop i l)) ++ more))]⟩] := Mem.back (R := [⟨52, 1, (obj b), 1, [.string (sb ((itsB (List.drop i l)) ++ more))]⟩]) (L := []) hM m4
      have o6 : (binOp .eql 9 (.string (sb ((itsB (List.drop i l)) ++ more))) (.string (sb more))).run Tryd.prog w3 = .ok (.bool true) w3 := f_streq_yes (by rw [List.drop_of_length_le (by omega)]; rfl)
      have hM7 : Mem [] w0 w3 [] := hM5.sub (List.Sublist.cons _ (List.Sublist.refl _))
      refine GoS.run [4] [.n, .h (.bool true), .n, .n] _ [.code (csub (cd Tryd.f6) [1,1,1,1,1])] [(4, .bool true)] w3 (by kernel_rfl) (.cons o6 .nil) ?_
      refine GoS.ret (fn := Tryd.f6) (v := (.bool true)) Tryd.func6 (by kernel_rfl) ?_
      rw [hR]
      exact ⟨rfl, (hM7.sub (List.nil_sublist _)).below⟩

set_option maxHeartbeats 400000 in
theorem lback_c (w : World) (u : Value) (l : List It) (hw : ∀ j, GoodIt (l.getD j itz)) (hu : Rd w 3 u l.length (recs itC l)) (more : List UInt8) (hm : more.length ≤ 140737488355328) :
    Calls Tryd.prog 6 #[u, .string (sb more)] w (fun e w' => e = .returned (.bool true) ∧ Below w.heap.size w w') := by
  have hll := rd_len hu
  simp only [maxLen] at hll
  obtain ⟨R, hR⟩ : ∃ R : Ending → World → Prop, R = (fun e w' => e = .returned (.bool true) ∧ Below w.heap.size w w') := ⟨_, rfl⟩
  rw [← hR]
  refine GoS.enter (n := 89) Tryd.func6 (by kernel_rfl) rfl [(0, u), (1, .string (sb more))] (by kernel_rfl) (by kernel_rfl) ?_
  have hM0 := Mem.start w
  refine GoS.run [0, 1] [.n, .n, .n, .n, .n, .n, .n] _ [.inRegion (cops (csub (cd Tryd.f6) [1,0,0])) [0,1,2,3,4,5,6], .code (csub (cd Tryd.f6) [1,0,1]), .code (csub (cd Tryd.f6) [1,1])] [(0, u), (1, .string (sb more))] w (by kernel_rfl) .nil ?_
  refine GoS.call [0, 1] 8 #[] (some 10) [.inRegion (cops (csub (cd Tryd.f6) [1,0,0])) [1,2,3,4,5,6], .code (csub (cd Tryd.f6) [1,0,1]), .code (csub (cd Tryd.f6) [1,1])] [(0, u), (1, .string (sb more))] (by kernel_rfl) (awake_c w) ?_
  rintro _ w1 ⟨rfl, m2⟩
  refine ⟨_, rfl, ?_⟩
  have hM3 := Mem.join hM0 m2
  have o4 : (Builtin.len_ #[32] 3 #[u]).run Tryd.prog w1 = .ok (.int .i64 (((List.length l) : Nat) : Int)) w1 := f_slen sT32 (hu.kept0 hM3.kept) 3 _
  refine GoS.run [0, 1, 16] [.n, .n, .n, .h (.int .i64 (((List.length l) : Nat) : Int)), .n, .n, .n] _ [.code (csub (cd Tryd.f6) [1,0,1]), .code (csub (cd Tryd.f6) [1,1])] [(0, u), (1, .string (sb more)), (16, .bool (decide ((((List.length l) : Nat) : Int) > 300)))] w1 (by kernel_rfl) (.cons o4 .nil) ?_
  refine GoS.cond (decide ((((List.length l) : Nat) : Int) > 300)) [.code (csub (cd Tryd.f6) [1,0,1,0]), .code (csub (cd Tryd.f6) [1,1])] [.code (csub (cd Tryd.f6) [1,0,1,1]), .code (csub (cd Tryd.f6) [1,1])] (by kernel_rfl) (fun h5 => ?_) (fun h5 => ?_)
  ·
    have h5p : (((List.length l) : Nat) : Int) > 300 := of_decide_eq_true h5
    refine GoS.run [] [.n, .n] _ [.inRegion (cops (csub (cd Tryd.f6) [1,0,1,0,0])) [0,1], .code (csub (cd Tryd.f6) [1,0,1,0,1]), .code (csub (cd Tryd.f6) [1,1])] [] w1 (by kernel_rfl) .nil ?_
    refine GoS.call [] 8 #[] (some 17) [.inRegion (cops (csub (cd Tryd.f6) [1,0,1,0,0])) [1], .code (csub (cd Tryd.f6) [1,0,1,0,1]), .code (csub (cd Tryd.f6) [1,1])] [] (by kernel_rfl) (awake_c w1) ?_
    rintro _ w6 ⟨rfl, m7⟩
    refine ⟨_, rfl, ?_⟩
    have hM8 := Mem.join hM3 m7
    refine GoS.run [4] [.n, .n] _ [.code (csub (cd Tryd.f6) [1,0,1,0,1]), .code (csub (cd Tryd.f6) [1,1])] [(4, .bool true)] w6 (by kernel_rfl) .nil ?_
    refine GoS.ret (fn := Tryd.f6) (v := (.bool true)) Tryd.func6 (by kernel_rfl) ?_
    rw [hR]
    exact ⟨rfl, (hM8.sub (List.nil_sublist _)).below⟩
  ·
    have h5p : ¬ ((((List.length l) : Nat) : Int) > 300) := of_decide_eq_false h5
    refine GoS.run [0, 1] [.n] _ [.code (csub (cd Tryd.f6) [1,1])] [(0, u), (1, .string (sb more))] w1 (by kernel_rfl) .nil ?_
    refine GoS.run [0, 1, 18] [.n, .n, .n] _ [.inRegion (cops (csub (cd Tryd.f6) [1,1,0])) [1,2,3,4,5], .code (csub (cd Tryd.f6) [1,1,1])] [(0, u), (1, .string (sb more)), (18, u)] w1 (by kernel_rfl) .nil ?_
    refine GoS.call [0, 1] 17 #[u] (some 19) [.inRegion (cops (csub (cd Tryd.f6) [1,1,0])) [2,3,4,5], .code (csub (cd Tryd.f6) [1,1,1])] [(0, u), (1, .string (sb more))] (by kernel_rfl) (writ_c u l (hw) (by omega) (hu.kept0 hM3.kept)) ?_
    rintro _ w9 ⟨rfl, m10⟩
    refine ⟨_, rfl, ?_⟩
    have hM11 := Mem.join hM3 m10
    have o12 : (binOp .add 9 (.string (sb (itsB l))) (.string (sb more))).run Tryd.prog w9 = .ok (.string (sb ((itsB l) ++ more))) w9 := f_stradd (by have q := (its_room hw (by omega) hm 0).1; rw [List.drop_zero] at q; omega)
    refine GoS.run [0, 1, 21] [.n, .h (.string (sb ((itsB l) ++ more)))] _ [.inRegion (cops (csub (cd Tryd.f6) [1,1,0])) [4,5], .code (csub (cd Tryd.f6) [1,1,1])] [(0, u), (1, .string (sb more)), (21, .string (sb ((itsB l) ++ more)))] w9 (by kernel_rfl) (.cons o12 .nil) ?_
    refine GoS.call [0, 1] 16 #[.string (sb ((itsB l) ++ more))] (some 22) [.inRegion (cops (csub (cd Tryd.f6) [1,1,0])) [5], .code (csub (cd Tryd.f6) [1,1,1])] [(0, u), (1, .string (sb more))] (by kernel_rfl) (at_c ((itsB l) ++ more) w9) ?_
    rintro _ w14 ⟨b13, rfl, m15⟩
    refine ⟨_, rfl, ?_⟩
    have hM16 := Mem.join hM11 m15
    refine GoS.run [0, 1, 5, 6] [.n, .n, .n, .n, .n, .n, .n, .n, .n] _ [.code (csub (cd Tryd.f6) [1,1,1,0,1,0,0]), .inLoop (csub (cd Tryd.f6) [1,1,1,0,1,0,0]), .inBlock 0, .code (csub (cd Tryd.f6) [1,1,1,1])] [(0, u), (1, .string (sb more)), (5, .pointer (some (⟨b13, 0, none⟩))), (6, .int .i64 0)] w14 (by kernel_rfl) .nil ?_
    exact lback_L u l hw (by omega) hu more hm b13 R hR (l.length + 1) 0 w14 (Nat.zero_le _) (by rw [List.drop_zero]; exact (hM16.sub (List.Sublist.cons_cons _ (List.nil_sublist _)))) (by omega)


end Go.Proofs.YtmjkbmlcclmdkaaDoor
