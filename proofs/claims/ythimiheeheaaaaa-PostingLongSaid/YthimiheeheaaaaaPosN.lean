/-
  The walk of find.
-/
import Derived.Test.YthimiheeheaaaaaPosM
namespace Go.Proofs.Ythimiheeheaaaaa
open Go Go.Gw Go.NumP Go.LiveP Go.PackP Go.PostP Go.RowKit
set_option linter.unusedVariables false
set_option linter.unusedSimpArgs false


set_option maxHeartbeats 1000000 in
theorem find_L3 {w0 : World} (t : Value) (Y : Nat → Value) (l : List Int) (ht : Rd w0 1 t (List.length (towT l)) (tcells (towT l) Y)) (hY : ∀ j, j < List.length (towT l) → Rd w0 1 (Y j) (List.length (List.getD (towT l) j zp).2) (ivals .i64 (List.getD (towT l) j zp).2)) (ha : Asc l) (hl : l.length ≤ 1048576) (f0 : Nat) (d : Int) (hf0 : f0 ≤ l.length) (lv : Nat) (hlv : lv < List.length (towT l)) (R : Ending → World → Prop) (hR : R = (fun e w' => e = .returned (.int .i64 ((fge l f0 d : Nat) : Int)) ∧ Mem [] w0 w' [])) : ∀ (N : Nat) (f : Nat) (w : World) (out : ∀ (f2 lv2 : Nat) (w : World), lv2 < lv → lv2 < List.length (towT l) → f2 ≤ List.length (List.getD (towT l) lv2 zp).2 → Past l f0 d lv2 f2 → Mem [] w0 w [] → GoS Try.prog 31 R 80 [.code (csub (cd Try.f31) [1,1,1,0,0]), .inLoop (csub (cd Try.f31) [1,1,1,0,0]), .inBlock 2] [(0, t), (1, .int .i64 ((f2 : Nat) : Int)), (2, .int .i64 d), (7, .int .i64 ((lv2 : Nat) : Int))] w) (hf : f ≤ List.length (List.getD (towT l) lv zp).2) (hp : Past l f0 d lv f) (hM : Mem [] w0 w []) (hN : List.length (List.getD (towT l) lv zp).2 - f < N), GoS Try.prog 31 R 80 [.code (csub (cd Try.f31) [1,1,1,0,0,0,0,0,0,0]), .inLoop (csub (cd Try.f31) [1,1,1,0,0,0,0,0,0,0]), .inBlock 4, .code (csub (cd Try.f31) [1,1,1,0,0,0,0,1]), .inBlock 3, .code (csub (cd Try.f31) [1,1,1,0,0,1]), .inLoop (csub (cd Try.f31) [1,1,1,0,0]), .inBlock 2] [(0, t), (1, .int .i64 ((f : Nat) : Int)), (2, .int .i64 d), (7, .int .i64 ((lv : Nat) : Int))] w := by
  intro N
  induction N with
  | zero => intro f w out hf hp hM hN; exact absurd hN (Nat.not_lt_zero _)
  | succ N ih =>
    intro f w out hf hp hM hN
    have htl := tow_len l
    have hpos := tow_pos l
    have hz := tow_zero l
    have hzl : (List.length (List.getD (towT l) 0 zp).2) = l.length := by rw [hz]
    have hup : lv + 1 < List.length (towT l) → (List.length (List.getD (towT l) (lv + 1) zp).2) = (List.length (List.getD (towT l) lv zp).2 + 127) / 128 := fun h => by rw [tow_rel l h, up_len]
    have hsm := tow_small l lv
    obtain ⟨p1, hp2, hq3⟩ := rd_at (i := ((lv : Nat) : Int)) sT62 (ht.kept0 hM.kept) lv (by omega) (by first | omega | (dsimp only; omega))
    have o4 : (Instr.indexAt 62 (t) (.int .i64 ((lv : Nat) : Int))).run Try.prog w = .ok (.pointer (some p1)) w := hq3 _ _
    have o5 : (Instr.loadAt 38 (.pointer (some p1))).run Try.prog w = .ok ((Y lv)) w := at_load pE38 (ht.kept0 hM.kept) hp2 (t_at (by first | omega | (dsimp only; omega)))
    have o6 : (Builtin.len_ #[38] 3 #[(Y lv)]).run Try.prog w = .ok (.int .i64 (((List.length ((List.getD (towT l) lv zp).2)) : Nat) : Int)) w := f_slen sT38 ((hY lv (by omega)).kept0 hM.kept) 3 _
    refine GoS.run [0, 1, 2, 7, 51] [.n, .n, .n, .n, .n, .n, .h (.pointer (some p1)), .h ((Y lv)), .h (.int .i64 (((List.length ((List.getD (towT l) lv zp).2)) : Nat) : Int)), .n, .n] _ [.inRegion (cops (csub (cd Try.f31) [1,1,1,0,0,0,0,0,0,0,0,0])) [8,9,10,11,12,13,14,15,16,17], .code (csub (cd Try.f31) [1,1,1,0,0,0,0,0,0,0,0,1]), .code (csub (cd Try.f31) [1,1,1,0,0,0,0,0,0,0,1]), .inLoop (csub (cd Try.f31) [1,1,1,0,0,0,0,0,0,0]), .inBlock 4, .code (csub (cd Try.f31) [1,1,1,0,0,0,0,1]), .inBlock 3, .code (csub (cd Try.f31) [1,1,1,0,0,1]), .inLoop (csub (cd Try.f31) [1,1,1,0,0]), .inBlock 2] [(0, t), (1, .int .i64 ((f : Nat) : Int)), (2, .int .i64 d), (7, .int .i64 ((lv : Nat) : Int)), (51, .bool (decide (((f : Nat) : Int) < (((List.length ((List.getD (towT l) lv zp).2)) : Nat) : Int))))] w (by kernel_rfl) (.cons o4 (.cons o5 (.cons o6 .nil))) ?_
    refine GoS.fork 51 (decide (((f : Nat) : Int) < (((List.length ((List.getD (towT l) lv zp).2)) : Nat) : Int))) (by kernel_rfl) (fun h7 => ?_) (fun h7 => ?_)
    ·
      have h7p : ((f : Nat) : Int) < (((List.length ((List.getD (towT l) lv zp).2)) : Nat) : Int) := of_decide_eq_true h7
      obtain ⟨p8, hp9, hq10⟩ := rd_at (i := ((lv : Nat) : Int)) sT62 (ht.kept0 hM.kept) lv (by omega) (by first | omega | (dsimp only; omega))
      have o14 : (Instr.indexAt 62 (t) (.int .i64 ((lv : Nat) : Int))).run Try.prog w = .ok (.pointer (some p8)) w := hq10 _ _
      have o15 : (Instr.loadAt 38 (.pointer (some p8))).run Try.prog w = .ok ((Y lv)) w := at_load pE38 (ht.kept0 hM.kept) hp9 (t_at (by first | omega | (dsimp only; omega)))
      obtain ⟨p11, hp12, hq13⟩ := rd_at (i := ((f : Nat) : Int)) sT38 ((hY lv (by omega)).kept0 hM.kept) f (by omega) (by first | omega | (dsimp only; omega))
      have o16 : (Instr.indexAt 38 ((Y lv)) (.int .i64 ((f : Nat) : Int))).run Try.prog w = .ok (.pointer (some p11)) w := hq13 _ _
      have o17 : (Instr.loadAt 3 (.pointer (some p11))).run Try.prog w = .ok (.int .i64 (List.getD ((List.getD (towT l) lv zp).2) f 0)) w := at_load pE3 ((hY lv (by omega)).kept0 hM.kept) hp12 (ivals_at (by first | omega | (dsimp only; omega)))
      refine GoS.run [0, 1, 2, 7, 61] [.n, .n, .h (.pointer (some p8)), .h ((Y lv)), .n, .h (.pointer (some p11)), .h (.int .i64 (List.getD ((List.getD (towT l) lv zp).2) f 0)), .n, .n, .n] _ [.inRegion (cops (csub (cd Try.f31) [1,1,1,0,0,0,0,0,0,0,0,0])) [], .code (csub (cd Try.f31) [1,1,1,0,0,0,0,0,0,0,0,1]), .code (csub (cd Try.f31) [1,1,1,0,0,0,0,0,0,0,1]), .inLoop (csub (cd Try.f31) [1,1,1,0,0,0,0,0,0,0]), .inBlock 4, .code (csub (cd Try.f31) [1,1,1,0,0,0,0,1]), .inBlock 3, .code (csub (cd Try.f31) [1,1,1,0,0,1]), .inLoop (csub (cd Try.f31) [1,1,1,0,0]), .inBlock 2] [(0, t), (1, .int .i64 ((f : Nat) : Int)), (2, .int .i64 d), (7, .int .i64 ((lv : Nat) : Int)), (61, .bool (decide ((List.getD ((List.getD (towT l) lv zp).2) f 0) < d)))] w (by kernel_rfl) (.cons o14 (.cons o15 (.cons o16 (.cons o17 .nil)))) ?_
      refine GoS.run [0, 1, 2, 7, 61] [.n] _ [.code (csub (cd Try.f31) [1,1,1,0,0,0,0,0,0,0,0,1]), .code (csub (cd Try.f31) [1,1,1,0,0,0,0,0,0,0,1]), .inLoop (csub (cd Try.f31) [1,1,1,0,0,0,0,0,0,0]), .inBlock 4, .code (csub (cd Try.f31) [1,1,1,0,0,0,0,1]), .inBlock 3, .code (csub (cd Try.f31) [1,1,1,0,0,1]), .inLoop (csub (cd Try.f31) [1,1,1,0,0]), .inBlock 2] [(0, t), (1, .int .i64 ((f : Nat) : Int)), (2, .int .i64 d), (7, .int .i64 ((lv : Nat) : Int)), (61, .bool (decide ((List.getD ((List.getD (towT l) lv zp).2) f 0) < d)))] w (by kernel_rfl) .nil ?_
      refine GoS.cond (decide ((List.getD ((List.getD (towT l) lv zp).2) f 0) < d)) [.code (csub (cd Try.f31) [1,1,1,0,0,0,0,0,0,0,0,1,0]), .code (csub (cd Try.f31) [1,1,1,0,0,0,0,0,0,0,1]), .inLoop (csub (cd Try.f31) [1,1,1,0,0,0,0,0,0,0]), .inBlock 4, .code (csub (cd Try.f31) [1,1,1,0,0,0,0,1]), .inBlock 3, .code (csub (cd Try.f31) [1,1,1,0,0,1]), .inLoop (csub (cd Try.f31) [1,1,1,0,0]), .inBlock 2] [.code (csub (cd Try.f31) [1,1,1,0,0,0,0,0,0,0,0,1,1]), .code (csub (cd Try.f31) [1,1,1,0,0,0,0,0,0,0,1]), .inLoop (csub (cd Try.f31) [1,1,1,0,0,0,0,0,0,0]), .inBlock 4, .code (csub (cd Try.f31) [1,1,1,0,0,0,0,1]), .inBlock 3, .code (csub (cd Try.f31) [1,1,1,0,0,1]), .inLoop (csub (cd Try.f31) [1,1,1,0,0]), .inBlock 2] (by kernel_rfl) (fun h18 => ?_) (fun h18 => ?_)
      ·
        have h18p : (List.getD ((List.getD (towT l) lv zp).2) f 0) < d := of_decide_eq_true h18
        refine GoS.run [0, 1, 2, 7] [.n] _ [.code (csub (cd Try.f31) [1,1,1,0,0,0,0,0,0,0,1]), .inLoop (csub (cd Try.f31) [1,1,1,0,0,0,0,0,0,0]), .inBlock 4, .code (csub (cd Try.f31) [1,1,1,0,0,0,0,1]), .inBlock 3, .code (csub (cd Try.f31) [1,1,1,0,0,1]), .inLoop (csub (cd Try.f31) [1,1,1,0,0]), .inBlock 2] [(0, t), (1, .int .i64 ((f : Nat) : Int)), (2, .int .i64 d), (7, .int .i64 ((lv : Nat) : Int))] w (by kernel_rfl) .nil ?_
        have o35 : (binOp .add 3 (.int .i64 ((f : Nat) : Int)) (.int .i64 1)).run Try.prog w = .ok (.int .i64 (((f + 1) : Nat) : Int)) w := f_add (by rw [show ((f : Nat) : Int) + 1 = (((f + 1) : Nat) : Int) by omega]; exact IntWalk.i64_in _ (by omega))
        refine GoS.run [0, 1, 2, 7] [.n, .n, .n, .h (.int .i64 (((f + 1) : Nat) : Int)), .n, .n, .n, .n] _ [.code (csub (cd Try.f31) [1,1,1,0,0,0,0,0,0,0]), .inLoop (csub (cd Try.f31) [1,1,1,0,0,0,0,0,0,0]), .inBlock 4, .code (csub (cd Try.f31) [1,1,1,0,0,0,0,1]), .inBlock 3, .code (csub (cd Try.f31) [1,1,1,0,0,1]), .inLoop (csub (cd Try.f31) [1,1,1,0,0]), .inBlock 2] [(0, t), (1, .int .i64 (((f + 1) : Nat) : Int)), (2, .int .i64 d), (7, .int .i64 ((lv : Nat) : Int))] w (by kernel_rfl) (.cons o35 .nil) ?_
        exact ih (f + 1) _ out (by omega) (past_step ha (by omega) hp (by omega) (by omega)) hM (by omega)
      ·
        have h18p : ¬ ((List.getD ((List.getD (towT l) lv zp).2) f 0) < d) := of_decide_eq_false h18
        obtain ⟨p19, hp20, hq21⟩ := rd_at (i := ((lv : Nat) : Int)) sT62 (ht.kept0 hM.kept) lv (by omega) (by first | omega | (dsimp only; omega))
        have o22 : (Instr.indexAt 62 (t) (.int .i64 ((lv : Nat) : Int))).run Try.prog w = .ok (.pointer (some p19)) w := hq21 _ _
        have o23 : (Instr.loadAt 38 (.pointer (some p19))).run Try.prog w = .ok ((Y lv)) w := at_load pE38 (ht.kept0 hM.kept) hp20 (t_at (by first | omega | (dsimp only; omega)))
        have o24 : (Builtin.len_ #[38] 3 #[(Y lv)]).run Try.prog w = .ok (.int .i64 (((List.length ((List.getD (towT l) lv zp).2)) : Nat) : Int)) w := f_slen sT38 ((hY lv (by omega)).kept0 hM.kept) 3 _
        refine GoS.run [0, 1, 2, 7, 70] [.n, .n, .n, .n, .n, .n, .n, .h (.pointer (some p19)), .h ((Y lv)), .h (.int .i64 (((List.length ((List.getD (towT l) lv zp).2)) : Nat) : Int)), .n, .n] _ [.code (csub (cd Try.f31) [1,1,1,0,0,0,0,1,0,1]), .code (csub (cd Try.f31) [1,1,1,0,0,0,0,1,1]), .inBlock 3, .code (csub (cd Try.f31) [1,1,1,0,0,1]), .inLoop (csub (cd Try.f31) [1,1,1,0,0]), .inBlock 2] [(0, t), (1, .int .i64 ((f : Nat) : Int)), (2, .int .i64 d), (7, .int .i64 ((lv : Nat) : Int)), (70, .bool (((f : Nat) : Int) == (((List.length ((List.getD (towT l) lv zp).2)) : Nat) : Int)))] w (by kernel_rfl) (.cons o22 (.cons o23 (.cons o24 .nil))) ?_
        refine GoS.cond (((f : Nat) : Int) == (((List.length ((List.getD (towT l) lv zp).2)) : Nat) : Int)) [.code (csub (cd Try.f31) [1,1,1,0,0,0,0,1,0,1,0]), .code (csub (cd Try.f31) [1,1,1,0,0,0,0,1,1]), .inBlock 3, .code (csub (cd Try.f31) [1,1,1,0,0,1]), .inLoop (csub (cd Try.f31) [1,1,1,0,0]), .inBlock 2] [.code (csub (cd Try.f31) [1,1,1,0,0,0,0,1,0,1,1]), .code (csub (cd Try.f31) [1,1,1,0,0,0,0,1,1]), .inBlock 3, .code (csub (cd Try.f31) [1,1,1,0,0,1]), .inLoop (csub (cd Try.f31) [1,1,1,0,0]), .inBlock 2] (by kernel_rfl) (fun h25 => ?_) (fun h25 => ?_)
        ·
          have h25p : ((f : Nat) : Int) = (((List.length ((List.getD (towT l) lv zp).2)) : Nat) : Int) := eq_of_beq h25
          obtain ⟨p26, hp27, hq28⟩ := rd_at (i := 0) sT62 (ht.kept0 hM.kept) 0 (by omega) (by first | omega | (dsimp only; omega))
          have o29 : (Instr.indexAt 62 (t) (.int .i64 0)).run Try.prog w = .ok (.pointer (some p26)) w := hq28 _ _
          have o30 : (Instr.loadAt 38 (.pointer (some p26))).run Try.prog w = .ok ((Y 0)) w := at_load pE38 (ht.kept0 hM.kept) hp27 (t_at (by first | omega | (dsimp only; omega)))
          have o31 : (Builtin.len_ #[38] 3 #[(Y 0)]).run Try.prog w = .ok (.int .i64 (((List.length ((List.getD (towT l) 0 zp).2)) : Nat) : Int)) w := f_slen sT38 ((hY 0 (by omega)).kept0 hM.kept) 3 _
          refine GoS.run [6] [.n, .n, .n, .h (.pointer (some p26)), .h ((Y 0)), .h (.int .i64 (((List.length ((List.getD (towT l) 0 zp).2)) : Nat) : Int)), .n, .n] _ [.code (csub (cd Try.f31) [1,1,1,0,0,0,0,1,0,1,0,1]), .code (csub (cd Try.f31) [1,1,1,0,0,0,0,1,1]), .inBlock 3, .code (csub (cd Try.f31) [1,1,1,0,0,1]), .inLoop (csub (cd Try.f31) [1,1,1,0,0]), .inBlock 2] [(6, .int .i64 (((List.length ((List.getD (towT l) 0 zp).2)) : Nat) : Int))] w (by kernel_rfl) (.cons o29 (.cons o30 (.cons o31 .nil))) ?_
          refine GoS.ret (fn := Try.f31) (v := (.int .i64 (((List.length ((List.getD (towT l) 0 zp).2)) : Nat) : Int))) Try.func31 (by kernel_rfl) ?_
          rw [hR]
          have e := past_end (by omega) hf0 hp (by omega)
          exact ⟨by rw [e, tow_zero], hM⟩
        ·
          have h25p : ¬ (((f : Nat) : Int) = (((List.length ((List.getD (towT l) lv zp).2)) : Nat) : Int)) := p_ne h25
          refine GoS.run [0, 1, 2, 7] [.n] _ [.code (csub (cd Try.f31) [1,1,1,0,0,0,0,1,1]), .inBlock 3, .code (csub (cd Try.f31) [1,1,1,0,0,1]), .inLoop (csub (cd Try.f31) [1,1,1,0,0]), .inBlock 2] [(0, t), (1, .int .i64 ((f : Nat) : Int)), (2, .int .i64 d), (7, .int .i64 ((lv : Nat) : Int))] w (by kernel_rfl) .nil ?_
          refine GoS.run [0, 1, 2, 7, 76] [.n, .n, .n, .n, .n, .n] _ [.code (csub (cd Try.f31) [1,1,1,0,0,0,0,1,1,0,1]), .code (csub (cd Try.f31) [1,1,1,0,0,0,0,1,1,1]), .inBlock 3, .code (csub (cd Try.f31) [1,1,1,0,0,1]), .inLoop (csub (cd Try.f31) [1,1,1,0,0]), .inBlock 2] [(0, t), (1, .int .i64 ((f : Nat) : Int)), (2, .int .i64 d), (7, .int .i64 ((lv : Nat) : Int)), (76, .bool (((lv : Nat) : Int) == 0))] w (by kernel_rfl) .nil ?_
          refine GoS.cond (((lv : Nat) : Int) == 0) [.code (csub (cd Try.f31) [1,1,1,0,0,0,0,1,1,0,1,0]), .code (csub (cd Try.f31) [1,1,1,0,0,0,0,1,1,1]), .inBlock 3, .code (csub (cd Try.f31) [1,1,1,0,0,1]), .inLoop (csub (cd Try.f31) [1,1,1,0,0]), .inBlock 2] [.code (csub (cd Try.f31) [1,1,1,0,0,0,0,1,1,0,1,1]), .code (csub (cd Try.f31) [1,1,1,0,0,0,0,1,1,1]), .inBlock 3, .code (csub (cd Try.f31) [1,1,1,0,0,1]), .inLoop (csub (cd Try.f31) [1,1,1,0,0]), .inBlock 2] (by kernel_rfl) (fun h32 => ?_) (fun h32 => ?_)
          ·
            have h32p : ((lv : Nat) : Int) = 0 := eq_of_beq h32
            refine GoS.run [6] [.n, .n, .n, .n, .n] _ [.code (csub (cd Try.f31) [1,1,1,0,0,0,0,1,1,0,1,0,1]), .code (csub (cd Try.f31) [1,1,1,0,0,0,0,1,1,1]), .inBlock 3, .code (csub (cd Try.f31) [1,1,1,0,0,1]), .inLoop (csub (cd Try.f31) [1,1,1,0,0]), .inBlock 2] [(6, .int .i64 ((f : Nat) : Int))] w (by kernel_rfl) .nil ?_
            refine GoS.ret (fn := Try.f31) (v := (.int .i64 ((f : Nat) : Int))) Try.func31 (by kernel_rfl) ?_
            rw [hR]
            obtain rfl : lv = 0 := by omega
            have e := past_zero hp (by rw [tow_zero] at *; omega) (by rw [tow_zero] at *; omega)
            exact ⟨by rw [e], hM⟩
          ·
            have h32p : ¬ (((lv : Nat) : Int) = 0) := p_ne h32
            refine GoS.run [0, 1, 2, 7] [.n] _ [.code (csub (cd Try.f31) [1,1,1,0,0,0,0,1,1,1]), .inBlock 3, .code (csub (cd Try.f31) [1,1,1,0,0,1]), .inLoop (csub (cd Try.f31) [1,1,1,0,0]), .inBlock 2] [(0, t), (1, .int .i64 ((f : Nat) : Int)), (2, .int .i64 d), (7, .int .i64 ((lv : Nat) : Int))] w (by kernel_rfl) .nil ?_
            have o33 : (binOp .mul 3 (.int .i64 ((f : Nat) : Int)) (.int .i64 128)).run Try.prog w = .ok (.int .i64 (((f * 128) : Nat) : Int)) w := f_mul (by rw [show ((f : Nat) : Int) * 128 = (((f * 128) : Nat) : Int) by omega]; exact IntWalk.i64_in _ (by omega))
            have o34 : (binOp .sub 3 (.int .i64 ((lv : Nat) : Int)) (.int .i64 1)).run Try.prog w = .ok (.int .i64 (((lv - 1) : Nat) : Int)) w := f_sub (by rw [show ((lv : Nat) : Int) - 1 = (((lv - 1) : Nat) : Int) by omega]; exact IntWalk.i64_in _ (by omega))
            refine GoS.run [0, 1, 2, 7] [.n, .n, .h (.int .i64 (((f * 128) : Nat) : Int)), .n, .n, .n, .n, .n, .h (.int .i64 (((lv - 1) : Nat) : Int)), .n, .n, .n] _ [.code (csub (cd Try.f31) [1,1,1,0,0]), .inLoop (csub (cd Try.f31) [1,1,1,0,0]), .inBlock 2] [(0, t), (1, .int .i64 (((f * 128) : Nat) : Int)), (2, .int .i64 d), (7, .int .i64 (((lv - 1) : Nat) : Int))] w (by kernel_rfl) (.cons o33 (.cons o34 .nil)) ?_
            have e := past_fit (l := l) (k := lv - 1) (f := f) (by omega) (by rw [show lv - 1 + 1 = lv by omega]; omega)
            exact out (f * 128) (lv - 1) _ (by omega) (by omega) e (past_down (by rw [show lv - 1 + 1 = lv by omega]; exact hp)) hM
    ·
      have h7p : ¬ (((f : Nat) : Int) < (((List.length ((List.getD (towT l) lv zp).2)) : Nat) : Int)) := of_decide_eq_false h7
      refine GoS.run [0, 1, 2, 7, 61] [.n, .n, .n, .n, .n, .n, .n, .n, .n, .n] _ [.inRegion (cops (csub (cd Try.f31) [1,1,1,0,0,0,0,0,0,0,0,0])) [], .code (csub (cd Try.f31) [1,1,1,0,0,0,0,0,0,0,0,1]), .code (csub (cd Try.f31) [1,1,1,0,0,0,0,0,0,0,1]), .inLoop (csub (cd Try.f31) [1,1,1,0,0,0,0,0,0,0]), .inBlock 4, .code (csub (cd Try.f31) [1,1,1,0,0,0,0,1]), .inBlock 3, .code (csub (cd Try.f31) [1,1,1,0,0,1]), .inLoop (csub (cd Try.f31) [1,1,1,0,0]), .inBlock 2] [(0, t), (1, .int .i64 ((f : Nat) : Int)), (2, .int .i64 d), (7, .int .i64 ((lv : Nat) : Int)), (61, .bool false)] w (by kernel_rfl) .nil ?_
      obtain ⟨p36, hp37, hq38⟩ := rd_at (i := ((lv : Nat) : Int)) sT62 (ht.kept0 hM.kept) lv (by omega) (by first | omega | (dsimp only; omega))
      have o39 : (Instr.indexAt 62 (t) (.int .i64 ((lv : Nat) : Int))).run Try.prog w = .ok (.pointer (some p36)) w := hq38 _ _
      have o40 : (Instr.loadAt 38 (.pointer (some p36))).run Try.prog w = .ok ((Y lv)) w := at_load pE38 (ht.kept0 hM.kept) hp37 (t_at (by first | omega | (dsimp only; omega)))
      have o41 : (Builtin.len_ #[38] 3 #[(Y lv)]).run Try.prog w = .ok (.int .i64 (((List.length ((List.getD (towT l) lv zp).2)) : Nat) : Int)) w := f_slen sT38 ((hY lv (by omega)).kept0 hM.kept) 3 _
      refine GoS.run [0, 1, 2, 7, 70] [.n, .n, .n, .n, .n, .n, .n, .n, .n, .h (.pointer (some p36)), .h ((Y lv)), .h (.int .i64 (((List.length ((List.getD (towT l) lv zp).2)) : Nat) : Int)), .n, .n] _ [.code (csub (cd Try.f31) [1,1,1,0,0,0,0,1,0,1]), .code (csub (cd Try.f31) [1,1,1,0,0,0,0,1,1]), .inBlock 3, .code (csub (cd Try.f31) [1,1,1,0,0,1]), .inLoop (csub (cd Try.f31) [1,1,1,0,0]), .inBlock 2] [(0, t), (1, .int .i64 ((f : Nat) : Int)), (2, .int .i64 d), (7, .int .i64 ((lv : Nat) : Int)), (70, .bool (((f : Nat) : Int) == (((List.length ((List.getD (towT l) lv zp).2)) : Nat) : Int)))] w (by kernel_rfl) (.cons o39 (.cons o40 (.cons o41 .nil))) ?_
      refine GoS.cond (((f : Nat) : Int) == (((List.length ((List.getD (towT l) lv zp).2)) : Nat) : Int)) [.code (csub (cd Try.f31) [1,1,1,0,0,0,0,1,0,1,0]), .code (csub (cd Try.f31) [1,1,1,0,0,0,0,1,1]), .inBlock 3, .code (csub (cd Try.f31) [1,1,1,0,0,1]), .inLoop (csub (cd Try.f31) [1,1,1,0,0]), .inBlock 2] [.code (csub (cd Try.f31) [1,1,1,0,0,0,0,1,0,1,1]), .code (csub (cd Try.f31) [1,1,1,0,0,0,0,1,1]), .inBlock 3, .code (csub (cd Try.f31) [1,1,1,0,0,1]), .inLoop (csub (cd Try.f31) [1,1,1,0,0]), .inBlock 2] (by kernel_rfl) (fun h42 => ?_) (fun h42 => ?_)
      ·
        have h42p : ((f : Nat) : Int) = (((List.length ((List.getD (towT l) lv zp).2)) : Nat) : Int) := eq_of_beq h42
        obtain ⟨p43, hp44, hq45⟩ := rd_at (i := 0) sT62 (ht.kept0 hM.kept) 0 (by omega) (by first | omega | (dsimp only; omega))
        have o46 : (Instr.indexAt 62 (t) (.int .i64 0)).run Try.prog w = .ok (.pointer (some p43)) w := hq45 _ _
        have o47 : (Instr.loadAt 38 (.pointer (some p43))).run Try.prog w = .ok ((Y 0)) w := at_load pE38 (ht.kept0 hM.kept) hp44 (t_at (by first | omega | (dsimp only; omega)))
        have o48 : (Builtin.len_ #[38] 3 #[(Y 0)]).run Try.prog w = .ok (.int .i64 (((List.length ((List.getD (towT l) 0 zp).2)) : Nat) : Int)) w := f_slen sT38 ((hY 0 (by omega)).kept0 hM.kept) 3 _
        refine GoS.run [6] [.n, .n, .n, .h (.pointer (some p43)), .h ((Y 0)), .h (.int .i64 (((List.length ((List.getD (towT l) 0 zp).2)) : Nat) : Int)), .n, .n] _ [.code (csub (cd Try.f31) [1,1,1,0,0,0,0,1,0,1,0,1]), .code (csub (cd Try.f31) [1,1,1,0,0,0,0,1,1]), .inBlock 3, .code (csub (cd Try.f31) [1,1,1,0,0,1]), .inLoop (csub (cd Try.f31) [1,1,1,0,0]), .inBlock 2] [(6, .int .i64 (((List.length ((List.getD (towT l) 0 zp).2)) : Nat) : Int))] w (by kernel_rfl) (.cons o46 (.cons o47 (.cons o48 .nil))) ?_
        refine GoS.ret (fn := Try.f31) (v := (.int .i64 (((List.length ((List.getD (towT l) 0 zp).2)) : Nat) : Int))) Try.func31 (by kernel_rfl) ?_
        rw [hR]
        have e := past_end (by omega) hf0 hp (by omega)
        exact ⟨by rw [e, tow_zero], hM⟩
      ·
        have h42p : ¬ (((f : Nat) : Int) = (((List.length ((List.getD (towT l) lv zp).2)) : Nat) : Int)) := p_ne h42
        refine GoS.run [0, 1, 2, 7] [.n] _ [.code (csub (cd Try.f31) [1,1,1,0,0,0,0,1,1]), .inBlock 3, .code (csub (cd Try.f31) [1,1,1,0,0,1]), .inLoop (csub (cd Try.f31) [1,1,1,0,0]), .inBlock 2] [(0, t), (1, .int .i64 ((f : Nat) : Int)), (2, .int .i64 d), (7, .int .i64 ((lv : Nat) : Int))] w (by kernel_rfl) .nil ?_
        refine GoS.run [0, 1, 2, 7, 76] [.n, .n, .n, .n, .n, .n] _ [.code (csub (cd Try.f31) [1,1,1,0,0,0,0,1,1,0,1]), .code (csub (cd Try.f31) [1,1,1,0,0,0,0,1,1,1]), .inBlock 3, .code (csub (cd Try.f31) [1,1,1,0,0,1]), .inLoop (csub (cd Try.f31) [1,1,1,0,0]), .inBlock 2] [(0, t), (1, .int .i64 ((f : Nat) : Int)), (2, .int .i64 d), (7, .int .i64 ((lv : Nat) : Int)), (76, .bool (((lv : Nat) : Int) == 0))] w (by kernel_rfl) .nil ?_
        refine GoS.cond (((lv : Nat) : Int) == 0) [.code (csub (cd Try.f31) [1,1,1,0,0,0,0,1,1,0,1,0]), .code (csub (cd Try.f31) [1,1,1,0,0,0,0,1,1,1]), .inBlock 3, .code (csub (cd Try.f31) [1,1,1,0,0,1]), .inLoop (csub (cd Try.f31) [1,1,1,0,0]), .inBlock 2] [.code (csub (cd Try.f31) [1,1,1,0,0,0,0,1,1,0,1,1]), .code (csub (cd Try.f31) [1,1,1,0,0,0,0,1,1,1]), .inBlock 3, .code (csub (cd Try.f31) [1,1,1,0,0,1]), .inLoop (csub (cd Try.f31) [1,1,1,0,0]), .inBlock 2] (by kernel_rfl) (fun h49 => ?_) (fun h49 => ?_)
        ·
          have h49p : ((lv : Nat) : Int) = 0 := eq_of_beq h49
          refine GoS.run [6] [.n, .n, .n, .n, .n] _ [.code (csub (cd Try.f31) [1,1,1,0,0,0,0,1,1,0,1,0,1]), .code (csub (cd Try.f31) [1,1,1,0,0,0,0,1,1,1]), .inBlock 3, .code (csub (cd Try.f31) [1,1,1,0,0,1]), .inLoop (csub (cd Try.f31) [1,1,1,0,0]), .inBlock 2] [(6, .int .i64 ((f : Nat) : Int))] w (by kernel_rfl) .nil ?_
          refine GoS.ret (fn := Try.f31) (v := (.int .i64 ((f : Nat) : Int))) Try.func31 (by kernel_rfl) ?_
          rw [hR]
          obtain rfl : lv = 0 := by omega
          have e := past_zero hp (by rw [tow_zero] at *; omega) (by rw [tow_zero] at *; omega)
          exact ⟨by rw [e], hM⟩
        ·
          have h49p : ¬ (((lv : Nat) : Int) = 0) := p_ne h49
          refine GoS.run [0, 1, 2, 7] [.n] _ [.code (csub (cd Try.f31) [1,1,1,0,0,0,0,1,1,1]), .inBlock 3, .code (csub (cd Try.f31) [1,1,1,0,0,1]), .inLoop (csub (cd Try.f31) [1,1,1,0,0]), .inBlock 2] [(0, t), (1, .int .i64 ((f : Nat) : Int)), (2, .int .i64 d), (7, .int .i64 ((lv : Nat) : Int))] w (by kernel_rfl) .nil ?_
          have o50 : (binOp .mul 3 (.int .i64 ((f : Nat) : Int)) (.int .i64 128)).run Try.prog w = .ok (.int .i64 (((f * 128) : Nat) : Int)) w := f_mul (by rw [show ((f : Nat) : Int) * 128 = (((f * 128) : Nat) : Int) by omega]; exact IntWalk.i64_in _ (by omega))
          have o51 : (binOp .sub 3 (.int .i64 ((lv : Nat) : Int)) (.int .i64 1)).run Try.prog w = .ok (.int .i64 (((lv - 1) : Nat) : Int)) w := f_sub (by rw [show ((lv : Nat) : Int) - 1 = (((lv - 1) : Nat) : Int) by omega]; exact IntWalk.i64_in _ (by omega))
          refine GoS.run [0, 1, 2, 7] [.n, .n, .h (.int .i64 (((f * 128) : Nat) : Int)), .n, .n, .n, .n, .n, .h (.int .i64 (((lv - 1) : Nat) : Int)), .n, .n, .n] _ [.code (csub (cd Try.f31) [1,1,1,0,0]), .inLoop (csub (cd Try.f31) [1,1,1,0,0]), .inBlock 2] [(0, t), (1, .int .i64 (((f * 128) : Nat) : Int)), (2, .int .i64 d), (7, .int .i64 (((lv - 1) : Nat) : Int))] w (by kernel_rfl) (.cons o50 (.cons o51 .nil)) ?_
          have e := past_fit (l := l) (k := lv - 1) (f := f) (by omega) (by rw [show lv - 1 + 1 = lv by omega]; omega)
          exact out (f * 128) (lv - 1) _ (by omega) (by omega) e (past_down (by rw [show lv - 1 + 1 = lv by omega]; exact hp)) hM

set_option maxHeartbeats 1000000 in
theorem find_L2 {w0 : World} (t : Value) (Y : Nat → Value) (l : List Int) (ht : Rd w0 1 t (List.length (towT l)) (tcells (towT l) Y)) (hY : ∀ j, j < List.length (towT l) → Rd w0 1 (Y j) (List.length (List.getD (towT l) j zp).2) (ivals .i64 (List.getD (towT l) j zp).2)) (ha : Asc l) (hl : l.length ≤ 1048576) (f0 : Nat) (d : Int) (hf0 : f0 ≤ l.length) (R : Ending → World → Prop) (hR : R = (fun e w' => e = .returned (.int .i64 ((fge l f0 d : Nat) : Int)) ∧ Mem [] w0 w' [])) : ∀ (N : Nat) (f lv : Nat) (w : World) (hlv : lv < List.length (towT l)) (hf : f ≤ List.length (List.getD (towT l) lv zp).2) (hp : Past l f0 d lv f) (hM : Mem [] w0 w []) (hN : lv < N), GoS Try.prog 31 R 80 [.code (csub (cd Try.f31) [1,1,1,0,0]), .inLoop (csub (cd Try.f31) [1,1,1,0,0]), .inBlock 2] [(0, t), (1, .int .i64 ((f : Nat) : Int)), (2, .int .i64 d), (7, .int .i64 ((lv : Nat) : Int))] w := by
  intro N
  induction N with
  | zero => intro f lv w hlv hf hp hM hN; exact absurd hN (Nat.not_lt_zero _)
  | succ N ih =>
    intro f lv w hlv hf hp hM hN
    have htl := tow_len l
    have hpos := tow_pos l
    have hz := tow_zero l
    have hzl : (List.length (List.getD (towT l) 0 zp).2) = l.length := by rw [hz]
    have hup : lv + 1 < List.length (towT l) → (List.length (List.getD (towT l) (lv + 1) zp).2) = (List.length (List.getD (towT l) lv zp).2 + 127) / 128 := fun h => by rw [tow_rel l h, up_len]
    have hsm := tow_small l lv
    refine GoS.run [0, 1, 2, 7] [.n, .n, .n, .n, .n] _ [.code (csub (cd Try.f31) [1,1,1,0,0,0,0,0,0,0]), .inLoop (csub (cd Try.f31) [1,1,1,0,0,0,0,0,0,0]), .inBlock 4, .code (csub (cd Try.f31) [1,1,1,0,0,0,0,1]), .inBlock 3, .code (csub (cd Try.f31) [1,1,1,0,0,1]), .inLoop (csub (cd Try.f31) [1,1,1,0,0]), .inBlock 2] [(0, t), (1, .int .i64 ((f : Nat) : Int)), (2, .int .i64 d), (7, .int .i64 ((lv : Nat) : Int))] w (by kernel_rfl) .nil ?_
    exact find_L3 t Y l ht hY ha hl f0 d hf0 lv (by omega) R hR (List.length (List.getD (towT l) lv zp).2 + 1) f w (fun f2 lv2 w g1 g2 g3 g4 m => ih f2 lv2 w (by omega) g3 g4 m (by omega)) hf hp hM (by omega)

set_option maxHeartbeats 1000000 in
theorem find_L1 {w0 : World} (t : Value) (Y : Nat → Value) (l : List Int) (ht : Rd w0 1 t (List.length (towT l)) (tcells (towT l) Y)) (hY : ∀ j, j < List.length (towT l) → Rd w0 1 (Y j) (List.length (List.getD (towT l) j zp).2) (ivals .i64 (List.getD (towT l) j zp).2)) (ha : Asc l) (hl : l.length ≤ 1048576) (f0 : Nat) (d : Int) (hf0 : f0 ≤ l.length) (R : Ending → World → Prop) (hR : R = (fun e w' => e = .returned (.int .i64 ((fge l f0 d : Nat) : Int)) ∧ Mem [] w0 w' [])) : ∀ (N : Nat) (f lv : Nat) (w : World) (hlv : lv < List.length (towT l)) (hf : f < List.length (List.getD (towT l) lv zp).2) (hp : Past l f0 d lv f) (hM : Mem [] w0 w []) (hN : List.length (towT l) - lv < N), GoS Try.prog 31 R 80 [.code (csub (cd Try.f31) [1,1,0,0,0]), .inLoop (csub (cd Try.f31) [1,1,0,0,0]), .inBlock 0, .code (csub (cd Try.f31) [1,1,1])] [(0, t), (1, .int .i64 ((f : Nat) : Int)), (2, .int .i64 d), (7, .int .i64 ((lv : Nat) : Int))] w := by
  intro N
  induction N with
  | zero => intro f lv w hlv hf hp hM hN; exact absurd hN (Nat.not_lt_zero _)
  | succ N ih =>
    intro f lv w hlv hf hp hM hN
    have htl := tow_len l
    have hpos := tow_pos l
    have hz := tow_zero l
    have hzl : (List.length (List.getD (towT l) 0 zp).2) = l.length := by rw [hz]
    have hup : lv + 1 < List.length (towT l) → (List.length (List.getD (towT l) (lv + 1) zp).2) = (List.length (List.getD (towT l) lv zp).2 + 127) / 128 := fun h => by rw [tow_rel l h, up_len]
    have hsm := tow_small l lv
    have o1 : (Builtin.len_ #[62] 3 #[t]).run Try.prog w = .ok (.int .i64 (((List.length (towT l)) : Nat) : Int)) w := f_slen sT62 (ht.kept0 hM.kept) 3 _
    have o2 : (binOp .sub 3 (.int .i64 (((List.length (towT l)) : Nat) : Int)) (.int .i64 1)).run Try.prog w = .ok (.int .i64 ((((List.length (towT l)) - 1) : Nat) : Int)) w := f_sub (by rw [show (((List.length (towT l)) : Nat) : Int) - 1 = ((((List.length (towT l)) - 1) : Nat) : Int) by omega]; exact IntWalk.i64_in _ (by omega))
    refine GoS.run [0, 1, 2, 7, 13] [.n, .n, .n, .n, .n, .h (.int .i64 (((List.length (towT l)) : Nat) : Int)), .h (.int .i64 ((((List.length (towT l)) - 1) : Nat) : Int)), .n, .n] _ [.inRegion (cops (csub (cd Try.f31) [1,1,0,0,0,0,0])) [6,7,8,9,10,11,12,13,14,15,16,17], .code (csub (cd Try.f31) [1,1,0,0,0,0,1]), .code (csub (cd Try.f31) [1,1,0,0,0,1]), .inLoop (csub (cd Try.f31) [1,1,0,0,0]), .inBlock 0, .code (csub (cd Try.f31) [1,1,1])] [(0, t), (1, .int .i64 ((f : Nat) : Int)), (2, .int .i64 d), (7, .int .i64 ((lv : Nat) : Int)), (13, .bool (decide (((lv : Nat) : Int) < ((((List.length (towT l)) - 1) : Nat) : Int))))] w (by kernel_rfl) (.cons o1 (.cons o2 .nil)) ?_
    refine GoS.fork 13 (decide (((lv : Nat) : Int) < ((((List.length (towT l)) - 1) : Nat) : Int))) (by kernel_rfl) (fun h3 => ?_) (fun h3 => ?_)
    ·
      have h3p : ((lv : Nat) : Int) < ((((List.length (towT l)) - 1) : Nat) : Int) := of_decide_eq_true h3
      have o10 : (binOp .add 3 (.int .i64 ((lv : Nat) : Int)) (.int .i64 1)).run Try.prog w = .ok (.int .i64 (((lv + 1) : Nat) : Int)) w := f_add (by rw [show ((lv : Nat) : Int) + 1 = (((lv + 1) : Nat) : Int) by omega]; exact IntWalk.i64_in _ (by omega))
      obtain ⟨p4, hp5, hq6⟩ := rd_at (i := (((lv + 1) : Nat) : Int)) sT62 (ht.kept0 hM.kept) (lv + 1) (by omega) (by first | omega | (dsimp only; omega))
      have o11 : (Instr.indexAt 62 (t) (.int .i64 (((lv + 1) : Nat) : Int))).run Try.prog w = .ok (.pointer (some p4)) w := hq6 _ _
      have o12 : (Instr.loadAt 38 (.pointer (some p4))).run Try.prog w = .ok ((Y (lv + 1))) w := at_load pE38 (ht.kept0 hM.kept) hp5 (t_at (by first | omega | (dsimp only; omega)))
      have o13 : (binOp .quo 3 (.int .i64 ((f : Nat) : Int)) (.int .i64 128)).run Try.prog w = .ok (.int .i64 (((f / 128) : Nat) : Int)) w := f_quo (by decide) ((IntWalk.i64_quo _ _ (by omega)).trans (by omega))
      obtain ⟨p7, hp8, hq9⟩ := rd_at (i := (((f / 128) : Nat) : Int)) sT38 ((hY (lv + 1) (by omega)).kept0 hM.kept) (f / 128) (by omega) (by first | omega | (dsimp only; omega))
      have o14 : (Instr.indexAt 38 ((Y (lv + 1))) (.int .i64 (((f / 128) : Nat) : Int))).run Try.prog w = .ok (.pointer (some p7)) w := hq9 _ _
      have o15 : (Instr.loadAt 3 (.pointer (some p7))).run Try.prog w = .ok (.int .i64 (List.getD ((List.getD (towT l) (lv + 1) zp).2) (f / 128) 0)) w := at_load pE3 ((hY (lv + 1) (by omega)).kept0 hM.kept) hp8 (ivals_at (by first | omega | (dsimp only; omega)))
      refine GoS.run [0, 1, 2, 7, 25] [.n, .n, .h (.int .i64 (((lv + 1) : Nat) : Int)), .h (.pointer (some p4)), .h ((Y (lv + 1))), .n, .h (.int .i64 (((f / 128) : Nat) : Int)), .h (.pointer (some p7)), .h (.int .i64 (List.getD ((List.getD (towT l) (lv + 1) zp).2) (f / 128) 0)), .n, .n, .n] _ [.inRegion (cops (csub (cd Try.f31) [1,1,0,0,0,0,0])) [], .code (csub (cd Try.f31) [1,1,0,0,0,0,1]), .code (csub (cd Try.f31) [1,1,0,0,0,1]), .inLoop (csub (cd Try.f31) [1,1,0,0,0]), .inBlock 0, .code (csub (cd Try.f31) [1,1,1])] [(0, t), (1, .int .i64 ((f : Nat) : Int)), (2, .int .i64 d), (7, .int .i64 ((lv : Nat) : Int)), (25, .bool (decide ((List.getD ((List.getD (towT l) (lv + 1) zp).2) (f / 128) 0) < d)))] w (by kernel_rfl) (.cons o10 (.cons o11 (.cons o12 (.cons o13 (.cons o14 (.cons o15 .nil)))))) ?_
      refine GoS.run [0, 1, 2, 7, 25] [.n] _ [.code (csub (cd Try.f31) [1,1,0,0,0,0,1]), .code (csub (cd Try.f31) [1,1,0,0,0,1]), .inLoop (csub (cd Try.f31) [1,1,0,0,0]), .inBlock 0, .code (csub (cd Try.f31) [1,1,1])] [(0, t), (1, .int .i64 ((f : Nat) : Int)), (2, .int .i64 d), (7, .int .i64 ((lv : Nat) : Int)), (25, .bool (decide ((List.getD ((List.getD (towT l) (lv + 1) zp).2) (f / 128) 0) < d)))] w (by kernel_rfl) .nil ?_
      refine GoS.cond (decide ((List.getD ((List.getD (towT l) (lv + 1) zp).2) (f / 128) 0) < d)) [.code (csub (cd Try.f31) [1,1,0,0,0,0,1,0]), .code (csub (cd Try.f31) [1,1,0,0,0,1]), .inLoop (csub (cd Try.f31) [1,1,0,0,0]), .inBlock 0, .code (csub (cd Try.f31) [1,1,1])] [.code (csub (cd Try.f31) [1,1,0,0,0,0,1,1]), .code (csub (cd Try.f31) [1,1,0,0,0,1]), .inLoop (csub (cd Try.f31) [1,1,0,0,0]), .inBlock 0, .code (csub (cd Try.f31) [1,1,1])] (by kernel_rfl) (fun h16 => ?_) (fun h16 => ?_)
      ·
        have h16p : (List.getD ((List.getD (towT l) (lv + 1) zp).2) (f / 128) 0) < d := of_decide_eq_true h16
        refine GoS.run [0, 1, 2, 7] [.n] _ [.code (csub (cd Try.f31) [1,1,0,0,0,1]), .inLoop (csub (cd Try.f31) [1,1,0,0,0]), .inBlock 0, .code (csub (cd Try.f31) [1,1,1])] [(0, t), (1, .int .i64 ((f : Nat) : Int)), (2, .int .i64 d), (7, .int .i64 ((lv : Nat) : Int))] w (by kernel_rfl) .nil ?_
        have o20 : (binOp .quo 3 (.int .i64 ((f : Nat) : Int)) (.int .i64 128)).run Try.prog w = .ok (.int .i64 (((f / 128) : Nat) : Int)) w := f_quo (by decide) ((IntWalk.i64_quo _ _ (by omega)).trans (by omega))
        have o21 : (binOp .add 3 (.int .i64 (((f / 128) : Nat) : Int)) (.int .i64 1)).run Try.prog w = .ok (.int .i64 ((((f / 128) + 1) : Nat) : Int)) w := f_add (by rw [show (((f / 128) : Nat) : Int) + 1 = ((((f / 128) + 1) : Nat) : Int) by omega]; exact IntWalk.i64_in _ (by omega))
        have o22 : (binOp .add 3 (.int .i64 ((lv : Nat) : Int)) (.int .i64 1)).run Try.prog w = .ok (.int .i64 (((lv + 1) : Nat) : Int)) w := f_add (by rw [show ((lv : Nat) : Int) + 1 = (((lv + 1) : Nat) : Int) by omega]; exact IntWalk.i64_in _ (by omega))
        obtain ⟨p17, hp18, hq19⟩ := rd_at (i := (((lv + 1) : Nat) : Int)) sT62 (ht.kept0 hM.kept) (lv + 1) (by omega) (by first | omega | (dsimp only; omega))
        have o23 : (Instr.indexAt 62 (t) (.int .i64 (((lv + 1) : Nat) : Int))).run Try.prog w = .ok (.pointer (some p17)) w := hq19 _ _
        have o24 : (Instr.loadAt 38 (.pointer (some p17))).run Try.prog w = .ok ((Y (lv + 1))) w := at_load pE38 (ht.kept0 hM.kept) hp18 (t_at (by first | omega | (dsimp only; omega)))
        have o25 : (Builtin.len_ #[38] 3 #[(Y (lv + 1))]).run Try.prog w = .ok (.int .i64 (((List.length ((List.getD (towT l) (lv + 1) zp).2)) : Nat) : Int)) w := f_slen sT38 ((hY (lv + 1) (by omega)).kept0 hM.kept) 3 _
        refine GoS.run [0, 1, 2, 7, 37] [.n, .n, .n, .n, .h (.int .i64 (((f / 128) : Nat) : Int)), .h (.int .i64 ((((f / 128) + 1) : Nat) : Int)), .n, .n, .n, .n, .n, .h (.int .i64 (((lv + 1) : Nat) : Int)), .n, .n, .n, .n, .n, .n, .n, .h (.pointer (some p17)), .h ((Y (lv + 1))), .h (.int .i64 (((List.length ((List.getD (towT l) (lv + 1) zp).2)) : Nat) : Int)), .n, .n] _ [.code (csub (cd Try.f31) [1,1,0,0,0,1,0,1,1,1]), .inBlock 1, .inLoop (csub (cd Try.f31) [1,1,0,0,0]), .inBlock 0, .code (csub (cd Try.f31) [1,1,1])] [(0, t), (1, .int .i64 ((((f / 128) + 1) : Nat) : Int)), (2, .int .i64 d), (7, .int .i64 (((lv + 1) : Nat) : Int)), (37, .bool (((((f / 128) + 1) : Nat) : Int) == (((List.length ((List.getD (towT l) (lv + 1) zp).2)) : Nat) : Int)))] w (by kernel_rfl) (.cons o20 (.cons o21 (.cons o22 (.cons o23 (.cons o24 (.cons o25 .nil)))))) ?_
        refine GoS.cond (((((f / 128) + 1) : Nat) : Int) == (((List.length ((List.getD (towT l) (lv + 1) zp).2)) : Nat) : Int)) [.code (csub (cd Try.f31) [1,1,0,0,0,1,0,1,1,1,0]), .inBlock 1, .inLoop (csub (cd Try.f31) [1,1,0,0,0]), .inBlock 0, .code (csub (cd Try.f31) [1,1,1])] [.code (csub (cd Try.f31) [1,1,0,0,0,1,0,1,1,1,1]), .inBlock 1, .inLoop (csub (cd Try.f31) [1,1,0,0,0]), .inBlock 0, .code (csub (cd Try.f31) [1,1,1])] (by kernel_rfl) (fun h26 => ?_) (fun h26 => ?_)
        ·
          have h26p : ((((f / 128) + 1) : Nat) : Int) = (((List.length ((List.getD (towT l) (lv + 1) zp).2)) : Nat) : Int) := eq_of_beq h26
          obtain ⟨p27, hp28, hq29⟩ := rd_at (i := 0) sT62 (ht.kept0 hM.kept) 0 (by omega) (by first | omega | (dsimp only; omega))
          have o30 : (Instr.indexAt 62 (t) (.int .i64 0)).run Try.prog w = .ok (.pointer (some p27)) w := hq29 _ _
          have o31 : (Instr.loadAt 38 (.pointer (some p27))).run Try.prog w = .ok ((Y 0)) w := at_load pE38 (ht.kept0 hM.kept) hp28 (t_at (by first | omega | (dsimp only; omega)))
          have o32 : (Builtin.len_ #[38] 3 #[(Y 0)]).run Try.prog w = .ok (.int .i64 (((List.length ((List.getD (towT l) 0 zp).2)) : Nat) : Int)) w := f_slen sT38 ((hY 0 (by omega)).kept0 hM.kept) 3 _
          refine GoS.run [6] [.n, .n, .n, .h (.pointer (some p27)), .h ((Y 0)), .h (.int .i64 (((List.length ((List.getD (towT l) 0 zp).2)) : Nat) : Int)), .n, .n] _ [.code (csub (cd Try.f31) [1,1,0,0,0,1,0,1,1,1,0,1]), .inBlock 1, .inLoop (csub (cd Try.f31) [1,1,0,0,0]), .inBlock 0, .code (csub (cd Try.f31) [1,1,1])] [(6, .int .i64 (((List.length ((List.getD (towT l) 0 zp).2)) : Nat) : Int))] w (by kernel_rfl) (.cons o30 (.cons o31 (.cons o32 .nil))) ?_
          refine GoS.ret (fn := Try.f31) (v := (.int .i64 (((List.length ((List.getD (towT l) 0 zp).2)) : Nat) : Int))) Try.func31 (by kernel_rfl) ?_
          rw [hR]
          have hpu := past_up ha (k := lv) (f := f) (by omega) hp (by omega) (by omega)
          have e := past_end (by omega) hf0 hpu.1 (by omega)
          exact ⟨by rw [e, tow_zero], hM⟩
        ·
          have h26p : ¬ (((((f / 128) + 1) : Nat) : Int) = (((List.length ((List.getD (towT l) (lv + 1) zp).2)) : Nat) : Int)) := p_ne h26
          refine GoS.run [0, 1, 2, 7] [.n] _ [.inBlock 1, .inLoop (csub (cd Try.f31) [1,1,0,0,0]), .inBlock 0, .code (csub (cd Try.f31) [1,1,1])] [(0, t), (1, .int .i64 ((((f / 128) + 1) : Nat) : Int)), (2, .int .i64 d), (7, .int .i64 (((lv + 1) : Nat) : Int))] w (by kernel_rfl) .nil ?_
          refine GoS.run [0, 1, 2, 7] [.n, .n] _ [.code (csub (cd Try.f31) [1,1,0,0,0]), .inLoop (csub (cd Try.f31) [1,1,0,0,0]), .inBlock 0, .code (csub (cd Try.f31) [1,1,1])] [(0, t), (1, .int .i64 ((((f / 128) + 1) : Nat) : Int)), (2, .int .i64 d), (7, .int .i64 (((lv + 1) : Nat) : Int))] w (by kernel_rfl) .nil ?_
          have hpu := past_up ha (k := lv) (f := f) (by omega) hp (by omega) (by omega)
          exact ih ((f / 128) + 1) (lv + 1) _ (by omega) (by omega) hpu.1 hM (by omega)
      ·
        have h16p : ¬ ((List.getD ((List.getD (towT l) (lv + 1) zp).2) (f / 128) 0) < d) := of_decide_eq_false h16
        refine GoS.run [0, 1, 2, 7] [.n, .n, .n] _ [.code (csub (cd Try.f31) [1,1,1,0,0]), .inLoop (csub (cd Try.f31) [1,1,1,0,0]), .inBlock 2] [(0, t), (1, .int .i64 ((f : Nat) : Int)), (2, .int .i64 d), (7, .int .i64 ((lv : Nat) : Int))] w (by kernel_rfl) .nil ?_
        exact find_L2 t Y l ht hY ha hl f0 d hf0 R hR (List.length (towT l) + 1) f lv w (by omega) (by omega) hp hM (by omega)
    ·
      have h3p : ¬ (((lv : Nat) : Int) < ((((List.length (towT l)) - 1) : Nat) : Int)) := of_decide_eq_false h3
      refine GoS.run [0, 1, 2, 7, 25] [.n, .n, .n, .n, .n, .n, .n, .n, .n, .n, .n, .n] _ [.inRegion (cops (csub (cd Try.f31) [1,1,0,0,0,0,0])) [], .code (csub (cd Try.f31) [1,1,0,0,0,0,1]), .code (csub (cd Try.f31) [1,1,0,0,0,1]), .inLoop (csub (cd Try.f31) [1,1,0,0,0]), .inBlock 0, .code (csub (cd Try.f31) [1,1,1])] [(0, t), (1, .int .i64 ((f : Nat) : Int)), (2, .int .i64 d), (7, .int .i64 ((lv : Nat) : Int)), (25, .bool false)] w (by kernel_rfl) .nil ?_
      refine GoS.run [0, 1, 2, 7] [.n, .n, .n, .n, .n] _ [.code (csub (cd Try.f31) [1,1,1,0,0]), .inLoop (csub (cd Try.f31) [1,1,1,0,0]), .inBlock 2] [(0, t), (1, .int .i64 ((f : Nat) : Int)), (2, .int .i64 d), (7, .int .i64 ((lv : Nat) : Int))] w (by kernel_rfl) .nil ?_
      exact find_L2 t Y l ht hY ha hl f0 d hf0 R hR (List.length (towT l) + 1) f lv w (by omega) (by omega) hp hM (by omega)

set_option maxHeartbeats 400000 in
theorem find_c {w : World} (t : Value) (Y : Nat → Value) (l : List Int) (ht : Rd w 1 t (List.length (towT l)) (tcells (towT l) Y)) (hY : ∀ j, j < List.length (towT l) → Rd w 1 (Y j) (List.length (List.getD (towT l) j zp).2) (ivals .i64 (List.getD (towT l) j zp).2)) (ha : Asc l) (hl : l.length ≤ 1048576) (f0 : Nat) (d : Int) (hf0 : f0 < l.length) :
    Calls Try.prog 31 #[t, .int .i64 ((f0 : Nat) : Int), .int .i64 d] w (fun e w' => e = .returned (.int .i64 ((fge l f0 d : Nat) : Int)) ∧ Mem [] w w' []) := by
  have hpos := tow_pos l
  obtain ⟨R, hR⟩ : ∃ R : Ending → World → Prop, R = (fun e w' => e = .returned (.int .i64 ((fge l f0 d : Nat) : Int)) ∧ Mem [] w w' []) := ⟨_, rfl⟩
  rw [← hR]
  refine GoS.enter (n := 80) Try.func31 (by kernel_rfl) rfl [(0, t), (1, .int .i64 ((f0 : Nat) : Int)), (2, .int .i64 d)] (by kernel_rfl) (by kernel_rfl) ?_
  have hM0 := Mem.start w
  refine GoS.run [0, 1, 2, 7] [.n, .n, .n, .n, .n, .n, .n, .n, .n, .n, .n] _ [.code (csub (cd Try.f31) [1,1,0,0,0]), .inLoop (csub (cd Try.f31) [1,1,0,0,0]), .inBlock 0, .code (csub (cd Try.f31) [1,1,1])] [(0, t), (1, .int .i64 ((f0 : Nat) : Int)), (2, .int .i64 d), (7, .int .i64 0)] w (by kernel_rfl) .nil ?_
  exact find_L1 t Y l ht hY ha hl f0 d (by omega) R hR (List.length (towT l) + 1) f0 0 w (by omega) (by rw [tow_zero]; exact hf0) past_start hM0 (by omega)


end Go.Proofs.Ythimiheeheaaaaa
