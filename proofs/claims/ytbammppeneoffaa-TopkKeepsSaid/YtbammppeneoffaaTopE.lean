/-
  The walk of List's comparison, the sort.
-/
import Derived.Test.YtbammppeneoffaaTopB
import Derived.Test.YtbammppeneoffaaSort
import Derived.Test.YtbammppeneoffaaSrtA
namespace Go.Proofs.Ytbammppeneoffaa
open Go Go.Gw Go.HitP Go.RowKit
set_option linter.unusedVariables false
set_option linter.unusedSimpArgs false


set_option maxHeartbeats 400000 in
theorem better_g (a b : Hit) (w : World) :
    Calls Try.prog 16 #[.agg #[.string (sb (a.key)), .int .i64 (a.score)], .agg #[.string (sb (b.key)), .int .i64 (b.score)]] w (fun e w' => e = .returned (.bool (better a b)) ∧ Mem [] w w' [] ∧ Grew w w') := by
  obtain ⟨R, hR⟩ : ∃ R : Ending → World → Prop, R = (fun e w' => e = .returned (.bool (better a b)) ∧ Mem [] w w' [] ∧ Grew w w') := ⟨_, rfl⟩
  rw [← hR]
  refine GoS.enter (n := 20) Try.func16 (by kernel_rfl) rfl [(0, .agg #[.string (sb (a.key)), .int .i64 (a.score)]), (1, .agg #[.string (sb (b.key)), .int .i64 (b.score)])] (by kernel_rfl) (by kernel_rfl) ?_
  have hM0 := Mem.start w
  obtain ⟨b1, w2, hr3, hM4⟩ := m_box (T := 31) (k := 2) (u := .agg #[.string (sb (a.key)), .int .i64 (a.score)]) rfl rfl hM0
  have hG5 := (Grew.refl w).trans (box_grown hr3)
  have hM6 : Mem [] w w2 [⟨31, 2, (obj b1), 1, [.string (sb (a.key)), .int .i64 (a.score)]⟩] := hM4
  have o13 : (Instr.box 31 (.agg #[.string (sb (a.key)), .int .i64 (a.score)])).run Try.prog w = .ok (.pointer (some (⟨b1, 0, none⟩))) w2 := hr3
  obtain ⟨b7, w8, hr9, hM10⟩ := m_box (T := 31) (k := 2) (u := .agg #[.string (sb (b.key)), .int .i64 (b.score)]) rfl rfl hM6
  have hG11 := hG5.trans (box_grown hr9)
  have hM12 : Mem [] w w8 [⟨31, 2, (obj b7), 1, [.string (sb (b.key)), .int .i64 (b.score)]⟩, ⟨31, 2, (obj b1), 1, [.string (sb (a.key)), .int .i64 (a.score)]⟩] := hM10
  have o14 : (Instr.box 31 (.agg #[.string (sb (b.key)), .int .i64 (b.score)])).run Try.prog w2 = .ok (.pointer (some (⟨b7, 0, none⟩))) w8 := hr9
  have o15 : (Instr.loadAt 3 (.pointer (some (⟨b1, 1, none⟩)))).run Try.prog w8 = .ok (.int .i64 (a.score)) w8 := c_load pE3 (hM12.rd 1 rfl) (cel_obj b1 1) rfl
  have o16 : (Instr.loadAt 3 (.pointer (some (⟨b7, 1, none⟩)))).run Try.prog w8 = .ok (.int .i64 (b.score)) w8 := c_load pE3 (hM12.rd 0 rfl) (cel_obj b7 1) rfl
  refine GoS.run [2, 3, 9] [.n, .n, .u (.pointer (some (⟨b1, 0, none⟩))) (w2), .u (.pointer (some (⟨b7, 0, none⟩))) (w8), .n, .n, .n, .n, .n, .n, .h (.int .i64 (a.score)), .n, .h (.int .i64 (b.score)), .n, .n] _ [.code (csub (cd Try.f16) [1,0,1]), .code (csub (cd Try.f16) [1,1])] [(2, .pointer (some (⟨b1, 0, none⟩))), (3, .pointer (some (⟨b7, 0, none⟩))), (9, .bool (a.score != b.score))] w8 (by kernel_rfl) (.cons o13 (.cons o14 (.cons o15 (.cons o16 .nil)))) ?_
  refine GoS.cond (a.score != b.score) [.code (csub (cd Try.f16) [1,0,1,0]), .code (csub (cd Try.f16) [1,1])] [.code (csub (cd Try.f16) [1,0,1,1]), .code (csub (cd Try.f16) [1,1])] (by kernel_rfl) (fun h17 => ?_) (fun h17 => ?_)
  ·
    have h17p : ¬ (a.score = b.score) := bne_iff_ne.1 h17
    have o18 : (Instr.loadAt 3 (.pointer (some (⟨b1, 1, none⟩)))).run Try.prog w8 = .ok (.int .i64 (a.score)) w8 := c_load pE3 (hM12.rd 1 rfl) (cel_obj b1 1) rfl
    have o19 : (Instr.loadAt 3 (.pointer (some (⟨b7, 1, none⟩)))).run Try.prog w8 = .ok (.int .i64 (b.score)) w8 := c_load pE3 (hM12.rd 0 rfl) (cel_obj b7 1) rfl
    have hM20 : Mem [] w w8 [] := hM12.sub (List.Sublist.cons _ (List.Sublist.cons _ (List.Sublist.refl _)))
    refine GoS.run [4] [.n, .n, .n, .h (.int .i64 (a.score)), .n, .h (.int .i64 (b.score)), .n, .n, .n] _ [.code (csub (cd Try.f16) [1,0,1,0,1]), .code (csub (cd Try.f16) [1,1])] [(4, .bool (decide (a.score > b.score)))] w8 (by kernel_rfl) (.cons o18 (.cons o19 .nil)) ?_
    refine GoS.ret (fn := Try.f16) (v := (.bool (decide (a.score > b.score)))) Try.func16 (by kernel_rfl) ?_
    rw [hR]
    exact ⟨ret_bool (by first | exact (better_ne (by omega)).symm | exact (better_t1 (by omega)).symm | exact (better_f1 (by omega) (by omega)).symm | exact (better_eq (by omega)).symm | (rw [better_eq (by omega)]; first | assumption | (symm; assumption))), hM20.sub (List.nil_sublist _), hG11⟩
  ·
    have h17p : a.score = b.score := p_eq h17
    refine GoS.run [2, 3] [.n] _ [.code (csub (cd Try.f16) [1,1])] [(2, .pointer (some (⟨b1, 0, none⟩))), (3, .pointer (some (⟨b7, 0, none⟩)))] w8 (by kernel_rfl) .nil ?_
    have o21 : (Instr.loadAt 9 (.pointer (some (⟨b1, 0, none⟩)))).run Try.prog w8 = .ok (.string (sb (a.key))) w8 := c_load pE9 (hM12.rd 1 rfl) (cel_obj b1 0) rfl
    have o22 : (Instr.loadAt 9 (.pointer (some (⟨b7, 0, none⟩)))).run Try.prog w8 = .ok (.string (sb (b.key))) w8 := c_load pE9 (hM12.rd 0 rfl) (cel_obj b7 0) rfl
    have o23 : (binOp .lss 9 (.string (sb (a.key))) (.string (sb (b.key)))).run Try.prog w8 = .ok (.bool (Op.bytesLess (a.key) (b.key))) w8 := f_strlt
    have hM24 : Mem [] w w8 [] := hM12.sub (List.Sublist.cons _ (List.Sublist.cons _ (List.Sublist.refl _)))
    refine GoS.run [4] [.n, .n, .n, .h (.string (sb (a.key))), .n, .h (.string (sb (b.key))), .h (.bool (Op.bytesLess (a.key) (b.key))), .n, .n] _ [.code (csub (cd Try.f16) [1,1,1])] [(4, .bool (Op.bytesLess (a.key) (b.key)))] w8 (by kernel_rfl) (.cons o21 (.cons o22 (.cons o23 .nil))) ?_
    refine GoS.ret (fn := Try.f16) (v := (.bool (Op.bytesLess (a.key) (b.key)))) Try.func16 (by kernel_rfl) ?_
    rw [hR]
    exact ⟨ret_bool (by first | exact (better_ne (by omega)).symm | exact (better_t1 (by omega)).symm | exact (better_f1 (by omega) (by omega)).symm | exact (better_eq (by omega)).symm | (rw [better_eq (by omega)]; first | assumption | (symm; assumption))), hM24.sub (List.nil_sublist _), hG11⟩

set_option maxHeartbeats 400000 in
theorem cmp_c (a b : Hit) (w : World) :
    Calls Try.prog 20 #[.agg #[.string (sb (a.key)), .int .i64 (a.score)], .agg #[.string (sb (b.key)), .int .i64 (b.score)]] w (fun e w' => e = .returned (.int .i64 (cfH a b)) ∧ Grew w w') := by
  obtain ⟨R, hR⟩ : ∃ R : Ending → World → Prop, R = (fun e w' => e = .returned (.int .i64 (cfH a b)) ∧ Grew w w') := ⟨_, rfl⟩
  rw [← hR]
  refine GoS.enter (n := 13) Try.func20 (by kernel_rfl) rfl [(0, .agg #[.string (sb (a.key)), .int .i64 (a.score)]), (1, .agg #[.string (sb (b.key)), .int .i64 (b.score)])] (by kernel_rfl) (by kernel_rfl) ?_
  have hM0 := Mem.start w
  obtain ⟨b1, w2, hr3, hM4⟩ := m_box (T := 31) (k := 2) (u := .agg #[.string (sb (a.key)), .int .i64 (a.score)]) rfl rfl hM0
  have hG5 := (Grew.refl w).trans (box_grown hr3)
  have hM6 : Mem [] w w2 [⟨31, 2, (obj b1), 1, [.string (sb (a.key)), .int .i64 (a.score)]⟩] := hM4
  have o13 : (Instr.box 31 (.agg #[.string (sb (a.key)), .int .i64 (a.score)])).run Try.prog w = .ok (.pointer (some (⟨b1, 0, none⟩))) w2 := hr3
  obtain ⟨b7, w8, hr9, hM10⟩ := m_box (T := 31) (k := 2) (u := .agg #[.string (sb (b.key)), .int .i64 (b.score)]) rfl rfl hM6
  have hG11 := hG5.trans (box_grown hr9)
  have hM12 : Mem [] w w8 [⟨31, 2, (obj b7), 1, [.string (sb (b.key)), .int .i64 (b.score)]⟩, ⟨31, 2, (obj b1), 1, [.string (sb (a.key)), .int .i64 (a.score)]⟩] := hM10
  have o14 : (Instr.box 31 (.agg #[.string (sb (b.key)), .int .i64 (b.score)])).run Try.prog w2 = .ok (.pointer (some (⟨b7, 0, none⟩))) w8 := hr9
  have o15 : (Instr.loadAt 31 (.pointer (some (⟨b1, 0, none⟩)))).run Try.prog w8 = .ok (.agg #[.string (sb (a.key)), .int .i64 (a.score)]) w8 := c_loads (ys := [.string (sb (a.key)), .int .i64 (a.score)]) aE31 (hM12.rd 1 rfl) (cel_obj b1 0) rfl (by intro j u hj; match j, hj with | 0, hj => exact hj | 1, hj => exact hj | n + 2, hj => cases hj)
  have o16 : (Instr.loadAt 31 (.pointer (some (⟨b7, 0, none⟩)))).run Try.prog w8 = .ok (.agg #[.string (sb (b.key)), .int .i64 (b.score)]) w8 := c_loads (ys := [.string (sb (b.key)), .int .i64 (b.score)]) aE31 (hM12.rd 0 rfl) (cel_obj b7 0) rfl (by intro j u hj; match j, hj with | 0, hj => exact hj | 1, hj => exact hj | n + 2, hj => cases hj)
  refine GoS.run [2, 3, 6, 7] [.n, .n, .u (.pointer (some (⟨b1, 0, none⟩))) (w2), .u (.pointer (some (⟨b7, 0, none⟩))) (w8), .n, .n, .n, .n, .n, .n, .h (.agg #[.string (sb (a.key)), .int .i64 (a.score)]), .h (.agg #[.string (sb (b.key)), .int .i64 (b.score)])] _ [.inRegion (cops (csub (cd Try.f20) [1,0,0,0])) [2,3], .code (csub (cd Try.f20) [1,0,0,1]), .inBlock 0, .code (csub (cd Try.f20) [1,1])] [(2, .pointer (some (⟨b1, 0, none⟩))), (3, .pointer (some (⟨b7, 0, none⟩))), (6, .agg #[.string (sb (a.key)), .int .i64 (a.score)]), (7, .agg #[.string (sb (b.key)), .int .i64 (b.score)])] w8 (by kernel_rfl) (.cons o13 (.cons o14 (.cons o15 (.cons o16 .nil)))) ?_
  refine GoS.call [2, 3] 16 #[.agg #[.string (sb (a.key)), .int .i64 (a.score)], .agg #[.string (sb (b.key)), .int .i64 (b.score)]] (some 8) [.inRegion (cops (csub (cd Try.f20) [1,0,0,0])) [3], .code (csub (cd Try.f20) [1,0,0,1]), .inBlock 0, .code (csub (cd Try.f20) [1,1])] [(2, .pointer (some (⟨b1, 0, none⟩))), (3, .pointer (some (⟨b7, 0, none⟩)))] (by kernel_rfl) (better_g a b w8) ?_
  rintro _ w17 ⟨rfl, m18, g20⟩
  refine ⟨_, rfl, ?_⟩
  have hM19 := Mem.join hM12 m18
  have hG21 := hG11.trans g20
  refine GoS.run [2, 3, 5] [.n, .n] _ [.code (csub (cd Try.f20) [1,0,0,1]), .inBlock 0, .code (csub (cd Try.f20) [1,1])] [(2, .pointer (some (⟨b1, 0, none⟩))), (3, .pointer (some (⟨b7, 0, none⟩))), (5, .bool (better a b))] w17 (by kernel_rfl) .nil ?_
  refine GoS.cond (better a b) [.code (csub (cd Try.f20) [1,0,0,1,0]), .inBlock 0, .code (csub (cd Try.f20) [1,1])] [.code (csub (cd Try.f20) [1,0,0,1,1]), .inBlock 0, .code (csub (cd Try.f20) [1,1])] (by kernel_rfl) (fun h22 => ?_) (fun h22 => ?_)
  ·
    have hM23 : Mem [] w w17 [] := hM19.sub (List.Sublist.cons _ (List.Sublist.cons _ (List.Sublist.refl _)))
    refine GoS.run [4] [.n, .n, .n, .n] _ [.code (csub (cd Try.f20) [1,0,0,1,0,1]), .inBlock 0, .code (csub (cd Try.f20) [1,1])] [(4, .int .i64 (-1))] w17 (by kernel_rfl) .nil ?_
    refine GoS.ret (fn := Try.f20) (v := (.int .i64 (-1))) Try.func20 (by kernel_rfl) ?_
    rw [hR]
    exact ⟨ret_int (if_pos h22).symm, hG21⟩
  ·
    have o24 : (Instr.loadAt 31 (.pointer (some (⟨b7, 0, none⟩)))).run Try.prog w17 = .ok (.agg #[.string (sb (b.key)), .int .i64 (b.score)]) w17 := c_loads (ys := [.string (sb (b.key)), .int .i64 (b.score)]) aE31 (hM19.rd 0 rfl) (cel_obj b7 0) rfl (by intro j u hj; match j, hj with | 0, hj => exact hj | 1, hj => exact hj | n + 2, hj => cases hj)
    have o25 : (Instr.loadAt 31 (.pointer (some (⟨b1, 0, none⟩)))).run Try.prog w17 = .ok (.agg #[.string (sb (a.key)), .int .i64 (a.score)]) w17 := c_loads (ys := [.string (sb (a.key)), .int .i64 (a.score)]) aE31 (hM19.rd 1 rfl) (cel_obj b1 0) rfl (by intro j u hj; match j, hj with | 0, hj => exact hj | 1, hj => exact hj | n + 2, hj => cases hj)
    have hM26 : Mem [] w w17 [] := hM19.sub (List.Sublist.cons _ (List.Sublist.cons _ (List.Sublist.refl _)))
    refine GoS.run [10, 11] [.n, .n, .h (.agg #[.string (sb (b.key)), .int .i64 (b.score)]), .h (.agg #[.string (sb (a.key)), .int .i64 (a.score)])] _ [.inRegion (cops (csub (cd Try.f20) [1,0,0,1,1,0])) [2,3], .code (csub (cd Try.f20) [1,0,0,1,1,1]), .inBlock 0, .code (csub (cd Try.f20) [1,1])] [(10, .agg #[.string (sb (b.key)), .int .i64 (b.score)]), (11, .agg #[.string (sb (a.key)), .int .i64 (a.score)])] w17 (by kernel_rfl) (.cons o24 (.cons o25 .nil)) ?_
    refine GoS.call [] 16 #[.agg #[.string (sb (b.key)), .int .i64 (b.score)], .agg #[.string (sb (a.key)), .int .i64 (a.score)]] (some 12) [.inRegion (cops (csub (cd Try.f20) [1,0,0,1,1,0])) [3], .code (csub (cd Try.f20) [1,0,0,1,1,1]), .inBlock 0, .code (csub (cd Try.f20) [1,1])] [] (by kernel_rfl) (better_g b a w17) ?_
    rintro _ w27 ⟨rfl, m28, g30⟩
    refine ⟨_, rfl, ?_⟩
    have hM29 := Mem.join hM26 m28
    have hG31 := hG21.trans g30
    refine GoS.run [9] [.n, .n] _ [.code (csub (cd Try.f20) [1,0,0,1,1,1]), .inBlock 0, .code (csub (cd Try.f20) [1,1])] [(9, .bool (better b a))] w27 (by kernel_rfl) .nil ?_
    refine GoS.cond (better b a) [.code (csub (cd Try.f20) [1,0,0,1,1,1,0]), .inBlock 0, .code (csub (cd Try.f20) [1,1])] [.code (csub (cd Try.f20) [1,0,0,1,1,1,1]), .inBlock 0, .code (csub (cd Try.f20) [1,1])] (by kernel_rfl) (fun h32 => ?_) (fun h32 => ?_)
    ·
      refine GoS.run [4] [.n, .n, .n, .n] _ [.code (csub (cd Try.f20) [1,0,0,1,1,1,0,1]), .inBlock 0, .code (csub (cd Try.f20) [1,1])] [(4, .int .i64 1)] w27 (by kernel_rfl) .nil ?_
      refine GoS.ret (fn := Try.f20) (v := (.int .i64 1)) Try.func20 (by kernel_rfl) ?_
      rw [hR]
      exact ⟨ret_int ((if_neg (by simp [h22])).trans (if_pos h32)).symm, hG31⟩
    ·
      refine GoS.run [] [.n] _ [.inBlock 0, .code (csub (cd Try.f20) [1,1])] [] w27 (by kernel_rfl) .nil ?_
      refine GoS.run [4] [.n, .n, .n, .n, .n] _ [.code (csub (cd Try.f20) [1,1,1])] [(4, .int .i64 0)] w27 (by kernel_rfl) .nil ?_
      refine GoS.ret (fn := Try.f20) (v := (.int .i64 0)) Try.func20 (by kernel_rfl) ?_
      rw [hR]
      exact ⟨ret_int ((if_neg (by simp [h22])).trans (if_neg (by simp [h32]))).symm, hG31⟩

instance : Inhabited Hit := ⟨hz⟩
theorem swoH : Go.Sort.SWO (Go.Proofs.ltOf cfH) where
  irrefl x := (lt_cfH x x).trans (better_irrefl x)
  trans x y z h k := (lt_cfH x z).trans (better_trans ((lt_cfH x y).symm.trans h) ((lt_cfH y z).symm.trans k))
  ntrans x y z h k := (lt_cfH x z).trans (better_nt ((lt_cfH x y).symm.trans h) ((lt_cfH y z).symm.trans k))

theorem sort_c {S : List Nat} {w0 w : World} (v : Value) (l : List Hit) (R : List Row) (hl : l.length ≤ 1000000000) (hM : Mem S w0 w (⟨31, 2, v, List.length l, recs hitC l⟩ :: R)) :
    Calls Try.prog 19 #[v, .func (.func 20) #[] #[]] w (fun e w' => e = .returned (.tuple #[]) ∧ Mem S w0 w' (⟨31, 2, v, List.length (srt l), recs hitC (srt l)⟩ :: R)) := by
  have key := sort_row (ρ := srtR) (enc := hitC) (k := 2) (l := l) srt_lays Try.isAgg31 Try.sizeOf31 hitC_len hitC_one cfH swoH 20 (Go.Proofs.enters_of Try.func20 (by kernel_rfl) rfl) (fun x y W => cmp_c x y W) (fun x y h k => better_tot ((lt_cfH x y).symm.trans h) ((lt_cfH y x).symm.trans k)) hM (by omega)
  refine key.mono fun e w' ⟨h1, h2⟩ => ⟨h1, ?_⟩
  have e2 : (l.mergeSort fun x y => !(Go.Proofs.ltOf cfH) y x) = srt l := merge_srt l
  rw [e2] at h2
  rw [srt_len]
  exact h2


end Go.Proofs.Ytbammppeneoffaa
