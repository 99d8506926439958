/-
  The walks of awake, of TopkNil and TopkBetter.
-/
import Derived.Test.YtbammppeneoffaaTopF
namespace Go.Proofs.Ytbammppeneoffaa
open Go Go.Gw Go.HitP Go.RowKit
set_option linter.unusedVariables false
set_option linter.unusedSimpArgs false


set_option maxHeartbeats 400000 in
theorem awake_c (w : World) :
    Calls Try.prog 9 #[] w (fun e w' => e = .returned (.bool true) ∧ Mem [] w w' []) := by
  obtain ⟨R, hR⟩ : ∃ R : Ending → World → Prop, R = (fun e w' => e = .returned (.bool true) ∧ Mem [] w w' []) := ⟨_, rfl⟩
  rw [← hR]
  refine GoS.enter (n := 47) Try.func9 (by kernel_rfl) rfl [] (by kernel_rfl) (by kernel_rfl) ?_
  have hM0 := Mem.start w
  refine GoS.run [] [.n, .n, .n, .n, .n, .n] _ [.inRegion (cops (csub (cd Try.f9) [1,0])) [0,1,2,3,4,5], .code (csub (cd Try.f9) [1,1])] [] w (by kernel_rfl) .nil ?_
  refine GoS.call [] 8 #[.int .i64 2] (some 6) [.inRegion (cops (csub (cd Try.f9) [1,0])) [1,2,3,4,5], .code (csub (cd Try.f9) [1,1])] [] (by kernel_rfl) (new_c 2 w) ?_
  rintro _ w1 (⟨hc4, rfl, m2⟩ | ⟨hc4, b3, rfl, m2⟩)
  ·
    exact absurd (by decide) hc4
  ·
    refine ⟨_, rfl, ?_⟩
    have hM6 := Mem.join hM0 m2
    refine GoS.run [1, 15, 16, 17] [.n, .n, .n, .n, .n, .n, .n, .n, .n, .n, .n, .n, .n, .n, .n, .n, .n, .n] _ [.inRegion (cops (csub (cd Try.f9) [1,1,0,0])) [9,10,11,12,13,14,15,16,17,18,19,20,21,22,23], .code (csub (cd Try.f9) [1,1,0,1]), .code (csub (cd Try.f9) [1,1,1])] [(1, .pointer (some (⟨b3, 0, none⟩))), (15, .bool false), (16, .pointer (some (⟨b3, 0, none⟩))), (17, .agg #[.string (sb ([98] : List UInt8)), .int .i64 5])] w1 (by kernel_rfl) .nil ?_
    have hM7 : Mem [] w w1 [⟨31, 2, (.slice none 0 0), (List.length ([] : List Hit)), (recs hitC ([] : List Hit))⟩, ⟨43, 3, (obj b3), 1, [(.slice none 0 0), .int .i64 2, .int .i64 0]⟩] := hM6.perm ((List.Perm.cons _ (List.Perm.refl _)).trans (List.Perm.swap _ _ _))
    have hM8 : Mem [] w w1 [⟨43, 3, (obj b3), 1, [(.slice none 0 0), .int .i64 2, .int .i64 0]⟩, ⟨31, 2, (.slice none 0 0), (List.length ([] : List Hit)), (recs hitC ([] : List Hit))⟩] := hM7.perm ((List.Perm.cons _ (List.Perm.refl _)).trans (List.Perm.swap _ _ _))
    refine GoS.call [1, 15] 11 #[.pointer (some (⟨b3, 0, none⟩)), .agg #[.string (sb ([98] : List UInt8)), .int .i64 5]] (some 18) [.inRegion (cops (csub (cd Try.f9) [1,1,0,0])) [10,11,12,13,14,15,16,17,18,19,20,21,22,23], .code (csub (cd Try.f9) [1,1,0,1]), .code (csub (cd Try.f9) [1,1,1])] [(1, .pointer (some (⟨b3, 0, none⟩))), (15, .bool false)] (by kernel_rfl) (offer_c b3 (.slice none 0 0) 2 ([] : List Hit) ([] : List Hit) (Hit.mk ([98] : List UInt8) 5) w1 (by decide) (top_nil 2) (by decide) (Mem.lend (R := [⟨43, 3, (obj b3), 1, [(.slice none 0 0), .int .i64 2, .int .i64 0]⟩, ⟨31, 2, (.slice none 0 0), (List.length ([] : List Hit)), (recs hitC ([] : List Hit))⟩]) (L := []) hM8)) ?_
    rintro _ w9 ⟨v11, l12, ht13, rfl, m10⟩
    refine ⟨_, rfl, ?_⟩
    have hM14 : Mem [] w w9 [⟨43, 3, (obj b3), 1, [v11, .int .i64 2, .int .i64 (((List.length (([] : List Hit) ++ [(Hit.mk ([98] : List UInt8) 5)])) : Nat) : Int)]⟩, ⟨31, 2, v11, (List.length l12), (recs hitC l12)⟩] := Mem.back (R := [⟨43, 3, (obj b3), 1, [(.slice none 0 0), .int .i64 2, .int .i64 0]⟩, ⟨31, 2, (.slice none 0 0), (List.length ([] : List Hit)), (recs hitC ([] : List Hit))⟩]) (L := []) hM8 m10
    refine GoS.run [1, 21] [.n, .n, .n] _ [.inRegion (cops (csub (cd Try.f9) [1,1,0,0])) [13,14,15,16,17,18,19,20,21,22,23], .code (csub (cd Try.f9) [1,1,0,1]), .code (csub (cd Try.f9) [1,1,1])] [(1, .pointer (some (⟨b3, 0, none⟩))), (21, .bool (!(decide (posH (Hit.mk ([98] : List UInt8) 5) (srt ([] : List Hit)) < 2))))] w9 (by kernel_rfl) .nil ?_
    refine GoS.fork 21 (!(decide (posH (Hit.mk ([98] : List UInt8) 5) (srt ([] : List Hit)) < 2))) (by kernel_rfl) (fun h15 => ?_) (fun h15 => ?_)
    ·
      exact absurd h15 (by decide +kernel)
    ·
      have h15p : posH (Hit.mk ([98] : List UInt8) 5) (srt ([] : List Hit)) < 2 := of_decide_eq_true (p_nt h15)
      refine GoS.run [1, 21, 22, 23] [.n, .n] _ [.inRegion (cops (csub (cd Try.f9) [1,1,0,0])) [15,16,17,18,19,20,21,22,23], .code (csub (cd Try.f9) [1,1,0,1]), .code (csub (cd Try.f9) [1,1,1])] [(1, .pointer (some (⟨b3, 0, none⟩))), (21, .bool false), (22, .pointer (some (⟨b3, 0, none⟩))), (23, .agg #[.string (sb ([99] : List UInt8)), .int .i64 5])] w9 (by kernel_rfl) .nil ?_
      have hM16 : Mem [] w w9 [⟨31, 2, v11, (List.length l12), (recs hitC l12)⟩, ⟨43, 3, (obj b3), 1, [v11, .int .i64 2, .int .i64 (((List.length (([] : List Hit) ++ [(Hit.mk ([98] : List UInt8) 5)])) : Nat) : Int)]⟩] := hM14.perm ((List.Perm.cons _ (List.Perm.refl _)).trans (List.Perm.swap _ _ _))
      have hM17 : Mem [] w w9 [⟨43, 3, (obj b3), 1, [v11, .int .i64 2, .int .i64 (((List.length (([] : List Hit) ++ [(Hit.mk ([98] : List UInt8) 5)])) : Nat) : Int)]⟩, ⟨31, 2, v11, (List.length l12), (recs hitC l12)⟩] := hM16.perm ((List.Perm.cons _ (List.Perm.refl _)).trans (List.Perm.swap _ _ _))
      refine GoS.call [1, 21] 11 #[.pointer (some (⟨b3, 0, none⟩)), .agg #[.string (sb ([99] : List UInt8)), .int .i64 5]] (some 24) [.inRegion (cops (csub (cd Try.f9) [1,1,0,0])) [16,17,18,19,20,21,22,23], .code (csub (cd Try.f9) [1,1,0,1]), .code (csub (cd Try.f9) [1,1,1])] [(1, .pointer (some (⟨b3, 0, none⟩))), (21, .bool false)] (by kernel_rfl) (offer_c b3 v11 2 (([] : List Hit) ++ [(Hit.mk ([98] : List UInt8) 5)]) l12 (Hit.mk ([99] : List UInt8) 5) w9 (by decide) ht13 (by decide) (Mem.lend (R := [⟨43, 3, (obj b3), 1, [v11, .int .i64 2, .int .i64 (((List.length (([] : List Hit) ++ [(Hit.mk ([98] : List UInt8) 5)])) : Nat) : Int)]⟩, ⟨31, 2, v11, (List.length l12), (recs hitC l12)⟩]) (L := []) hM17)) ?_
      rintro _ w18 ⟨v20, l21, ht22, rfl, m19⟩
      refine ⟨_, rfl, ?_⟩
      have hM23 : Mem [] w w18 [⟨43, 3, (obj b3), 1, [v20, .int .i64 2, .int .i64 (((List.length ((([] : List Hit) ++ [(Hit.mk ([98] : List UInt8) 5)]) ++ [(Hit.mk ([99] : List UInt8) 5)])) : Nat) : Int)]⟩, ⟨31, 2, v20, (List.length l21), (recs hitC l21)⟩] := Mem.back (R := [⟨43, 3, (obj b3), 1, [v11, .int .i64 2, .int .i64 (((List.length (([] : List Hit) ++ [(Hit.mk ([98] : List UInt8) 5)])) : Nat) : Int)]⟩, ⟨31, 2, v11, (List.length l12), (recs hitC l12)⟩]) (L := []) hM17 m19
      refine GoS.run [1, 27] [.n, .n, .n] _ [.inRegion (cops (csub (cd Try.f9) [1,1,0,0])) [19,20,21,22,23], .code (csub (cd Try.f9) [1,1,0,1]), .code (csub (cd Try.f9) [1,1,1])] [(1, .pointer (some (⟨b3, 0, none⟩))), (27, .bool (!(decide (posH (Hit.mk ([99] : List UInt8) 5) (srt (([] : List Hit) ++ [(Hit.mk ([98] : List UInt8) 5)])) < 2))))] w18 (by kernel_rfl) .nil ?_
      refine GoS.fork 27 (!(decide (posH (Hit.mk ([99] : List UInt8) 5) (srt (([] : List Hit) ++ [(Hit.mk ([98] : List UInt8) 5)])) < 2))) (by kernel_rfl) (fun h24 => ?_) (fun h24 => ?_)
      ·
        exact absurd h24 (by decide +kernel)
      ·
        have h24p : posH (Hit.mk ([99] : List UInt8) 5) (srt (([] : List Hit) ++ [(Hit.mk ([98] : List UInt8) 5)])) < 2 := of_decide_eq_true (p_nt h24)
        refine GoS.run [1, 27, 28, 29] [.n, .n] _ [.inRegion (cops (csub (cd Try.f9) [1,1,0,0])) [21,22,23], .code (csub (cd Try.f9) [1,1,0,1]), .code (csub (cd Try.f9) [1,1,1])] [(1, .pointer (some (⟨b3, 0, none⟩))), (27, .bool false), (28, .pointer (some (⟨b3, 0, none⟩))), (29, .agg #[.string (sb ([97] : List UInt8)), .int .i64 5])] w18 (by kernel_rfl) .nil ?_
        have hM25 : Mem [] w w18 [⟨31, 2, v20, (List.length l21), (recs hitC l21)⟩, ⟨43, 3, (obj b3), 1, [v20, .int .i64 2, .int .i64 (((List.length ((([] : List Hit) ++ [(Hit.mk ([98] : List UInt8) 5)]) ++ [(Hit.mk ([99] : List UInt8) 5)])) : Nat) : Int)]⟩] := hM23.perm ((List.Perm.cons _ (List.Perm.refl _)).trans (List.Perm.swap _ _ _))
        have hM26 : Mem [] w w18 [⟨43, 3, (obj b3), 1, [v20, .int .i64 2, .int .i64 (((List.length ((([] : List Hit) ++ [(Hit.mk ([98] : List UInt8) 5)]) ++ [(Hit.mk ([99] : List UInt8) 5)])) : Nat) : Int)]⟩, ⟨31, 2, v20, (List.length l21), (recs hitC l21)⟩] := hM25.perm ((List.Perm.cons _ (List.Perm.refl _)).trans (List.Perm.swap _ _ _))
        refine GoS.call [1, 27] 11 #[.pointer (some (⟨b3, 0, none⟩)), .agg #[.string (sb ([97] : List UInt8)), .int .i64 5]] (some 30) [.inRegion (cops (csub (cd Try.f9) [1,1,0,0])) [22,23], .code (csub (cd Try.f9) [1,1,0,1]), .code (csub (cd Try.f9) [1,1,1])] [(1, .pointer (some (⟨b3, 0, none⟩))), (27, .bool false)] (by kernel_rfl) (offer_c b3 v20 2 ((([] : List Hit) ++ [(Hit.mk ([98] : List UInt8) 5)]) ++ [(Hit.mk ([99] : List UInt8) 5)]) l21 (Hit.mk ([97] : List UInt8) 5) w18 (by decide) ht22 (by decide) (Mem.lend (R := [⟨43, 3, (obj b3), 1, [v20, .int .i64 2, .int .i64 (((List.length ((([] : List Hit) ++ [(Hit.mk ([98] : List UInt8) 5)]) ++ [(Hit.mk ([99] : List UInt8) 5)])) : Nat) : Int)]⟩, ⟨31, 2, v20, (List.length l21), (recs hitC l21)⟩]) (L := []) hM26)) ?_
        rintro _ w27 ⟨v29, l30, ht31, rfl, m28⟩
        refine ⟨_, rfl, ?_⟩
        have hM32 : Mem [] w w27 [⟨43, 3, (obj b3), 1, [v29, .int .i64 2, .int .i64 (((List.length (((([] : List Hit) ++ [(Hit.mk ([98] : List UInt8) 5)]) ++ [(Hit.mk ([99] : List UInt8) 5)]) ++ [(Hit.mk ([97] : List UInt8) 5)])) : Nat) : Int)]⟩, ⟨31, 2, v29, (List.length l30), (recs hitC l30)⟩] := Mem.back (R := [⟨43, 3, (obj b3), 1, [v20, .int .i64 2, .int .i64 (((List.length ((([] : List Hit) ++ [(Hit.mk ([98] : List UInt8) 5)]) ++ [(Hit.mk ([99] : List UInt8) 5)])) : Nat) : Int)]⟩, ⟨31, 2, v20, (List.length l21), (recs hitC l21)⟩]) (L := []) hM26 m28
        refine GoS.run [1, 32] [.n, .n] _ [.inRegion (cops (csub (cd Try.f9) [1,1,0,0])) [], .code (csub (cd Try.f9) [1,1,0,1]), .code (csub (cd Try.f9) [1,1,1])] [(1, .pointer (some (⟨b3, 0, none⟩))), (32, .bool (!(decide (posH (Hit.mk ([97] : List UInt8) 5) (srt ((([] : List Hit) ++ [(Hit.mk ([98] : List UInt8) 5)]) ++ [(Hit.mk ([99] : List UInt8) 5)])) < 2))))] w27 (by kernel_rfl) .nil ?_
        refine GoS.run [1, 32] [.n] _ [.code (csub (cd Try.f9) [1,1,0,1]), .code (csub (cd Try.f9) [1,1,1])] [(1, .pointer (some (⟨b3, 0, none⟩))), (32, .bool (!(decide (posH (Hit.mk ([97] : List UInt8) 5) (srt ((([] : List Hit) ++ [(Hit.mk ([98] : List UInt8) 5)]) ++ [(Hit.mk ([99] : List UInt8) 5)])) < 2))))] w27 (by kernel_rfl) .nil ?_
        refine GoS.cond (!(decide (posH (Hit.mk ([97] : List UInt8) 5) (srt ((([] : List Hit) ++ [(Hit.mk ([98] : List UInt8) 5)]) ++ [(Hit.mk ([99] : List UInt8) 5)])) < 2))) [.code (csub (cd Try.f9) [1,1,0,1,0]), .code (csub (cd Try.f9) [1,1,1])] [.code (csub (cd Try.f9) [1,1,0,1,1]), .code (csub (cd Try.f9) [1,1,1])] (by kernel_rfl) (fun h33 => ?_) (fun h33 => ?_)
        ·
          exact absurd h33 (by decide +kernel)
        ·
          have h33p : posH (Hit.mk ([97] : List UInt8) 5) (srt ((([] : List Hit) ++ [(Hit.mk ([98] : List UInt8) 5)]) ++ [(Hit.mk ([99] : List UInt8) 5)])) < 2 := of_decide_eq_true (p_nt h33)
          refine GoS.run [1] [.n] _ [.code (csub (cd Try.f9) [1,1,1])] [(1, .pointer (some (⟨b3, 0, none⟩)))] w27 (by kernel_rfl) .nil ?_
          refine GoS.run [34] [.n, .n, .n] _ [.inRegion (cops (csub (cd Try.f9) [1,1,1,0])) [1,2,3,4,5,6], .code (csub (cd Try.f9) [1,1,1,1])] [(34, .pointer (some (⟨b3, 0, none⟩)))] w27 (by kernel_rfl) .nil ?_
          have hM34 : Mem [] w w27 [⟨31, 2, v29, (List.length l30), (recs hitC l30)⟩, ⟨43, 3, (obj b3), 1, [v29, .int .i64 2, .int .i64 (((List.length (((([] : List Hit) ++ [(Hit.mk ([98] : List UInt8) 5)]) ++ [(Hit.mk ([99] : List UInt8) 5)]) ++ [(Hit.mk ([97] : List UInt8) 5)])) : Nat) : Int)]⟩] := hM32.perm ((List.Perm.cons _ (List.Perm.refl _)).trans (List.Perm.swap _ _ _))
          have hM35 : Mem [] w w27 [⟨43, 3, (obj b3), 1, [v29, .int .i64 2, .int .i64 (((List.length (((([] : List Hit) ++ [(Hit.mk ([98] : List UInt8) 5)]) ++ [(Hit.mk ([99] : List UInt8) 5)]) ++ [(Hit.mk ([97] : List UInt8) 5)])) : Nat) : Int)]⟩, ⟨31, 2, v29, (List.length l30), (recs hitC l30)⟩] := hM34.perm ((List.Perm.cons _ (List.Perm.refl _)).trans (List.Perm.swap _ _ _))
          refine GoS.call [] 14 #[.pointer (some (⟨b3, 0, none⟩))] (some 35) [.inRegion (cops (csub (cd Try.f9) [1,1,1,0])) [2,3,4,5,6], .code (csub (cd Try.f9) [1,1,1,1])] [] (by kernel_rfl) (list_c b3 v29 2 (((List.length (((([] : List Hit) ++ [(Hit.mk ([98] : List UInt8) 5)]) ++ [(Hit.mk ([99] : List UInt8) 5)]) ++ [(Hit.mk ([97] : List UInt8) 5)])) : Nat) : Int) l30 w27 (by have q := top_len ht31; have q2 := show 1 ≤ 2 ∧ 2 ≤ 100 from (by decide); omega) (Mem.lend (R := [⟨43, 3, (obj b3), 1, [v29, .int .i64 2, .int .i64 (((List.length (((([] : List Hit) ++ [(Hit.mk ([98] : List UInt8) 5)]) ++ [(Hit.mk ([99] : List UInt8) 5)]) ++ [(Hit.mk ([97] : List UInt8) 5)])) : Nat) : Int)]⟩, ⟨31, 2, v29, (List.length l30), (recs hitC l30)⟩]) (L := []) hM35)) ?_
          rintro _ w36 ⟨u38, rfl, m37⟩
          refine ⟨_, rfl, ?_⟩
          have hM40 : Mem [] w w36 [⟨31, 2, u38, (List.length (srt l30)), (recs hitC (srt l30))⟩, ⟨43, 3, (obj b3), 1, [v29, .int .i64 2, .int .i64 (((List.length (((([] : List Hit) ++ [(Hit.mk ([98] : List UInt8) 5)]) ++ [(Hit.mk ([99] : List UInt8) 5)]) ++ [(Hit.mk ([97] : List UInt8) 5)])) : Nat) : Int)]⟩, ⟨31, 2, v29, (List.length l30), (recs hitC l30)⟩] := Mem.back (R := [⟨43, 3, (obj b3), 1, [v29, .int .i64 2, .int .i64 (((List.length (((([] : List Hit) ++ [(Hit.mk ([98] : List UInt8) 5)]) ++ [(Hit.mk ([99] : List UInt8) 5)]) ++ [(Hit.mk ([97] : List UInt8) 5)])) : Nat) : Int)]⟩, ⟨31, 2, v29, (List.length l30), (recs hitC l30)⟩]) (L := []) hM35 m37
          have hM39 : Mem [] w w36 [⟨31, 2, u38, (List.length (List.take 2 (srt (((([] : List Hit) ++ [(Hit.mk ([98] : List UInt8) 5)]) ++ [(Hit.mk ([99] : List UInt8) 5)]) ++ [(Hit.mk ([97] : List UInt8) 5)])))), (recs hitC (List.take 2 (srt (((([] : List Hit) ++ [(Hit.mk ([98] : List UInt8) 5)]) ++ [(Hit.mk ([99] : List UInt8) 5)]) ++ [(Hit.mk ([97] : List UInt8) 5)]))))⟩, ⟨43, 3, (obj b3), 1, [v29, .int .i64 2, .int .i64 (((List.length (((([] : List Hit) ++ [(Hit.mk ([98] : List UInt8) 5)]) ++ [(Hit.mk ([99] : List UInt8) 5)]) ++ [(Hit.mk ([97] : List UInt8) 5)])) : Nat) : Int)]⟩, ⟨31, 2, v29, (List.length l30), (recs hitC l30)⟩] := hM40.cast (by rw [top_list ht31])
          have o45 : (IntKind.i64 = IntKind.i64) ∧ w36 = w36 ∧ Value.bool true = .bool ((((List.length (((([] : List Hit) ++ [(Hit.mk ([98] : List UInt8) 5)]) ++ [(Hit.mk ([99] : List UInt8) 5)]) ++ [(Hit.mk ([97] : List UInt8) 5)])) : Nat) : Int) == 3) := ⟨rfl, rfl, congrArg Value.bool (Eq.symm (by decide +kernel))⟩
          obtain ⟨v41, w42, hr43, hM44⟩ := m_lit sT22 hM39 (n := 2) (parts := #[(0, .agg #[.string (sb ([97] : List UInt8)), .int .i64 5]), (1, .agg #[.string (sb ([98] : List UInt8)), .int .i64 5])]) (cs := [.string (sb ([97] : List UInt8)), .int .i64 5, .string (sb ([98] : List UInt8)), .int .i64 5]) (by decide) (by kernel_rfl) rfl
          have o46 : (Instr.buildSlice 22 2 #[(0, .agg #[.string (sb ([97] : List UInt8)), .int .i64 5]), (1, .agg #[.string (sb ([98] : List UInt8)), .int .i64 5])]).run Try.prog w36 = .ok v41 w42 := hr43
          have hM47 : Mem [] w w42 [⟨31, 2, v41, 2, [.string (sb ([97] : List UInt8)), .int .i64 5, .string (sb ([98] : List UInt8)), .int .i64 5]⟩, ⟨31, 2, u38, (List.length (List.take 2 (srt (((([] : List Hit) ++ [(Hit.mk ([98] : List UInt8) 5)]) ++ [(Hit.mk ([99] : List UInt8) 5)]) ++ [(Hit.mk ([97] : List UInt8) 5)])))), (recs hitC (List.take 2 (srt (((([] : List Hit) ++ [(Hit.mk ([98] : List UInt8) 5)]) ++ [(Hit.mk ([99] : List UInt8) 5)]) ++ [(Hit.mk ([97] : List UInt8) 5)]))))⟩] := hM44.sub (List.Sublist.cons_cons _ (List.Sublist.cons_cons _ (List.Sublist.cons _ (List.Sublist.cons _ (List.Sublist.refl _)))))
          refine GoS.run [40, 41, 44] [.n, .n, .n, .n, .n, .n, .n, .n, .n, .h (.bool true), .n, .n, .n, .n, .u (v41) (w42)] _ [.inRegion (cops (csub (cd Try.f9) [1,1,1,1,0])) [7,8,9], .code (csub (cd Try.f9) [1,1,1,1,1])] [(40, .bool true), (41, u38), (44, v41)] w42 (by kernel_rfl) (.cons o45 (.cons o46 .nil)) ?_
          refine GoS.call [40] 15 #[u38, v41] (some 45) [.inRegion (cops (csub (cd Try.f9) [1,1,1,1,0])) [8,9], .code (csub (cd Try.f9) [1,1,1,1,1])] [(40, .bool true)] (by kernel_rfl) (same_yes u38 v41 (List.take 2 (srt (((([] : List Hit) ++ [(Hit.mk ([98] : List UInt8) 5)]) ++ [(Hit.mk ([99] : List UInt8) 5)]) ++ [(Hit.mk ([97] : List UInt8) 5)]))) ([(Hit.mk ([97] : List UInt8) 5), (Hit.mk ([98] : List UInt8) 5)] : List Hit) (hM47.rd 1 rfl) (rd_castn (hM47.rd 0 rfl) (by first | rfl | (simp; done) | (simp; omega))) (by decide +kernel)) ?_
          rintro _ w48 ⟨rfl, m49⟩
          refine ⟨_, rfl, ?_⟩
          have hM50 := Mem.join hM47 m49
          have hM51 : Mem [] w w48 [] := hM50.sub (List.Sublist.cons _ (List.Sublist.cons _ (List.Sublist.refl _)))
          refine GoS.run [0] [.n, .n, .n] _ [.code (csub (cd Try.f9) [1,1,1,1,1])] [(0, .bool true)] w48 (by kernel_rfl) .nil ?_
          refine GoS.ret (fn := Try.f9) (v := (.bool true)) Try.func9 (by kernel_rfl) ?_
          rw [hR]
          exact ⟨ret_bool (by decide +kernel), hM51⟩

set_option maxHeartbeats 400000 in
theorem noffer_c (w : World) (x : Hit) :
    Calls Try.prog 11 #[.pointer none, .agg #[.string (sb (x.key)), .int .i64 (x.score)]] w (fun e w' => e = .returned (.bool false) ∧ Mem [] w w' []) := by
  obtain ⟨R, hR⟩ : ∃ R : Ending → World → Prop, R = (fun e w' => e = .returned (.bool false) ∧ Mem [] w w' []) := ⟨_, rfl⟩
  rw [← hR]
  refine GoS.enter (n := 45) Try.func11 (by kernel_rfl) rfl [(0, .pointer none), (1, .agg #[.string (sb (x.key)), .int .i64 (x.score)])] (by kernel_rfl) (by kernel_rfl) ?_
  have hM0 := Mem.start w
  obtain ⟨b1, w2, hr3, hM4⟩ := m_box (T := 31) (k := 2) (u := .agg #[.string (sb (x.key)), .int .i64 (x.score)]) rfl rfl hM0
  have hM5 : Mem [] w w2 [⟨31, 2, (obj b1), 1, [.string (sb (x.key)), .int .i64 (x.score)]⟩] := hM4
  have o6 : (Instr.box 31 (.agg #[.string (sb (x.key)), .int .i64 (x.score)])).run Try.prog w = .ok (.pointer (some (⟨b1, 0, none⟩))) w2 := hr3
  have hM7 : Mem [] w w2 [] := hM5.sub (List.Sublist.cons _ (List.Sublist.refl _))
  refine GoS.run [4] [.n, .n, .u (.pointer (some (⟨b1, 0, none⟩))) (w2), .n, .n, .n, .n, .n, .n, .n, .n, .n, .n, .n, .n, .n] _ [.code (csub (cd Try.f11) [1,0,1,0,1]), .code (csub (cd Try.f11) [1,1])] [(4, .bool false)] w2 (by kernel_rfl) (.cons o6 .nil) ?_
  refine GoS.ret (fn := Try.f11) (v := (.bool false)) Try.func11 (by kernel_rfl) ?_
  rw [hR]
  exact ⟨rfl, hM7⟩

set_option maxHeartbeats 400000 in
theorem nlist_c (w : World) :
    Calls Try.prog 14 #[.pointer none] w (fun e w' => e = .returned (.tuple #[.slice none 0 0, .int .i64 0]) ∧ Mem [] w w' []) := by
  obtain ⟨R, hR⟩ : ∃ R : Ending → World → Prop, R = (fun e w' => e = .returned (.tuple #[.slice none 0 0, .int .i64 0]) ∧ Mem [] w w' []) := ⟨_, rfl⟩
  rw [← hR]
  refine GoS.enter (n := 20) Try.func14 (by kernel_rfl) rfl [(0, .pointer none)] (by kernel_rfl) (by kernel_rfl) ?_
  have hM0 := Mem.start w
  refine GoS.run [2, 3] [.n, .n, .n, .n, .n, .n, .n, .n, .n, .n, .n, .n, .n, .n, .n, .n, .n] _ [.code (csub (cd Try.f14) [1,0,1,0,1]), .code (csub (cd Try.f14) [1,1])] [(2, .slice none 0 0), (3, .int .i64 0)] w (by kernel_rfl) .nil ?_
  refine GoS.ret (fn := Try.f14) (v := (.tuple #[.slice none 0 0, .int .i64 0])) Try.func14 (by kernel_rfl) ?_
  rw [hR]
  exact ⟨rfl, hM0⟩

set_option maxHeartbeats 400000 in
theorem lnil_c (x : Hit) (w : World) :
    Calls Try.prog 6 #[.agg #[.string (sb (x.key)), .int .i64 (x.score)]] w (fun e w' => e = .returned (.bool true) ∧ Below w.heap.size w w') := by
  obtain ⟨R, hR⟩ : ∃ R : Ending → World → Prop, R = (fun e w' => e = .returned (.bool true) ∧ Below w.heap.size w w') := ⟨_, rfl⟩
  rw [← hR]
  refine GoS.enter (n := 27) Try.func6 (by kernel_rfl) rfl [(0, .agg #[.string (sb (x.key)), .int .i64 (x.score)])] (by kernel_rfl) (by kernel_rfl) ?_
  have hM0 := Mem.start w
  obtain ⟨b1, w2, hr3, hM4⟩ := m_box (T := 31) (k := 2) (u := .agg #[.string (sb (x.key)), .int .i64 (x.score)]) rfl rfl hM0
  have hM5 : Mem [] w w2 [⟨31, 2, (obj b1), 1, [.string (sb (x.key)), .int .i64 (x.score)]⟩] := hM4
  have o6 : (Instr.box 31 (.agg #[.string (sb (x.key)), .int .i64 (x.score)])).run Try.prog w = .ok (.pointer (some (⟨b1, 0, none⟩))) w2 := hr3
  refine GoS.run [1, 3, 7] [.n, .n, .u (.pointer (some (⟨b1, 0, none⟩))) (w2), .n, .n, .n, .n, .n, .n, .n, .n, .n] _ [.inRegion (cops (csub (cd Try.f6) [1,1,0])) [1,2,3,4,5,6], .code (csub (cd Try.f6) [1,1,1])] [(1, .pointer (some (⟨b1, 0, none⟩))), (3, .pointer none), (7, .pointer none)] w2 (by kernel_rfl) (.cons o6 .nil) ?_
  refine GoS.call [1, 3] 14 #[.pointer none] (some 8) [.inRegion (cops (csub (cd Try.f6) [1,1,0])) [2,3,4,5,6], .code (csub (cd Try.f6) [1,1,1])] [(1, .pointer (some (⟨b1, 0, none⟩))), (3, .pointer none)] (by kernel_rfl) (nlist_c w2) ?_
  rintro _ w7 ⟨rfl, m8⟩
  refine ⟨_, rfl, ?_⟩
  have hM9 := Mem.join hM5 m8
  refine GoS.run [1, 3, 4, 5] [.n, .n, .n, .n, .n, .n, .n, .n] _ [.inRegion (cops (csub (cd Try.f6) [1,1,1,0])) [0,1,2,3,4,5,6,7,8,9,10,11,12,13,14,15,16], .code (csub (cd Try.f6) [1,1,1,1])] [(1, .pointer (some (⟨b1, 0, none⟩))), (3, .pointer none), (4, .slice none 0 0), (5, .int .i64 0)] w7 (by kernel_rfl) .nil ?_
  refine GoS.call [1, 3, 4, 5] 9 #[] (some 11) [.inRegion (cops (csub (cd Try.f6) [1,1,1,0])) [1,2,3,4,5,6,7,8,9,10,11,12,13,14,15,16], .code (csub (cd Try.f6) [1,1,1,1])] [(1, .pointer (some (⟨b1, 0, none⟩))), (3, .pointer none), (4, .slice none 0 0), (5, .int .i64 0)] (by kernel_rfl) (awake_c w7) ?_
  rintro _ w10 ⟨rfl, m11⟩
  refine ⟨_, rfl, ?_⟩
  have hM12 := Mem.join hM9 m11
  have o13 : (Instr.loadAt 31 (.pointer (some (⟨b1, 0, none⟩)))).run Try.prog w10 = .ok (.agg #[.string (sb (x.key)), .int .i64 (x.score)]) w10 := c_loads (ys := [.string (sb (x.key)), .int .i64 (x.score)]) aE31 (hM12.rd 0 rfl) (cel_obj b1 0) rfl (by intro j u hj; match j, hj with | 0, hj => exact hj | 1, hj => exact hj | n + 2, hj => cases hj)
  have hM14 : Mem [] w w10 [] := hM12.sub (List.Sublist.cons _ (List.Sublist.refl _))
  refine GoS.run [4, 5, 12, 13, 14] [.n, .n, .h (.agg #[.string (sb (x.key)), .int .i64 (x.score)])] _ [.inRegion (cops (csub (cd Try.f6) [1,1,1,0])) [4,5,6,7,8,9,10,11,12,13,14,15,16], .code (csub (cd Try.f6) [1,1,1,1])] [(4, .slice none 0 0), (5, .int .i64 0), (12, .bool true), (13, .pointer none), (14, .agg #[.string (sb (x.key)), .int .i64 (x.score)])] w10 (by kernel_rfl) (.cons o13 .nil) ?_
  refine GoS.call [4, 5, 12] 11 #[.pointer none, .agg #[.string (sb (x.key)), .int .i64 (x.score)]] (some 15) [.inRegion (cops (csub (cd Try.f6) [1,1,1,0])) [5,6,7,8,9,10,11,12,13,14,15,16], .code (csub (cd Try.f6) [1,1,1,1])] [(4, .slice none 0 0), (5, .int .i64 0), (12, .bool true)] (by kernel_rfl) (noffer_c w10 x) ?_
  rintro _ w15 ⟨rfl, m16⟩
  refine ⟨_, rfl, ?_⟩
  have hM17 := Mem.join hM14 m16
  have o18 : (IntKind.i64 = IntKind.i64) ∧ w15 = w15 ∧ Value.bool true = .bool (0 == 0) := ⟨rfl, rfl, congrArg Value.bool (Eq.symm (beq_self_eq_true _))⟩
  have o19 : (IntKind.i64 = IntKind.i64) ∧ w15 = w15 ∧ Value.bool true = .bool (0 == 0) := ⟨rfl, rfl, congrArg Value.bool (Eq.symm (beq_self_eq_true _))⟩
  refine GoS.run [2] [.n, .n, .n, .n, .n, .h (.bool true), .n, .n, .n, .h (.bool true), .n, .n, .n] _ [.code (csub (cd Try.f6) [1,1,1,1])] [(2, .bool true)] w15 (by kernel_rfl) (.cons o18 (.cons o19 .nil)) ?_
  refine GoS.ret (fn := Try.f6) (v := (.bool true)) Try.func6 (by kernel_rfl) ?_
  rw [hR]
  exact ⟨rfl, (hM17.sub (List.nil_sublist _)).below⟩

set_option maxHeartbeats 400000 in
theorem lbetter_c (a b c : Hit) (w : World) :
    Calls Try.prog 5 #[.agg #[.string (sb (a.key)), .int .i64 (a.score)], .agg #[.string (sb (b.key)), .int .i64 (b.score)], .agg #[.string (sb (c.key)), .int .i64 (c.score)]] w (fun e w' => e = .returned (.bool true) ∧ Below w.heap.size w w') := by
  obtain ⟨R, hR⟩ : ∃ R : Ending → World → Prop, R = (fun e w' => e = .returned (.bool true) ∧ Below w.heap.size w w') := ⟨_, rfl⟩
  rw [← hR]
  refine GoS.enter (n := 56) Try.func5 (by kernel_rfl) rfl [(0, .agg #[.string (sb (a.key)), .int .i64 (a.score)]), (1, .agg #[.string (sb (b.key)), .int .i64 (b.score)]), (2, .agg #[.string (sb (c.key)), .int .i64 (c.score)])] (by kernel_rfl) (by kernel_rfl) ?_
  have hM0 := Mem.start w
  obtain ⟨b1, w2, hr3, hM4⟩ := m_box (T := 31) (k := 2) (u := .agg #[.string (sb (a.key)), .int .i64 (a.score)]) rfl rfl hM0
  have hM5 : Mem [] w w2 [⟨31, 2, (obj b1), 1, [.string (sb (a.key)), .int .i64 (a.score)]⟩] := hM4
  have o16 : (Instr.box 31 (.agg #[.string (sb (a.key)), .int .i64 (a.score)])).run Try.prog w = .ok (.pointer (some (⟨b1, 0, none⟩))) w2 := hr3
  obtain ⟨b6, w7, hr8, hM9⟩ := m_box (T := 31) (k := 2) (u := .agg #[.string (sb (b.key)), .int .i64 (b.score)]) rfl rfl hM5
  have hM10 : Mem [] w w7 [⟨31, 2, (obj b6), 1, [.string (sb (b.key)), .int .i64 (b.score)]⟩, ⟨31, 2, (obj b1), 1, [.string (sb (a.key)), .int .i64 (a.score)]⟩] := hM9
  have o17 : (Instr.box 31 (.agg #[.string (sb (b.key)), .int .i64 (b.score)])).run Try.prog w2 = .ok (.pointer (some (⟨b6, 0, none⟩))) w7 := hr8
  obtain ⟨b11, w12, hr13, hM14⟩ := m_box (T := 31) (k := 2) (u := .agg #[.string (sb (c.key)), .int .i64 (c.score)]) rfl rfl hM10
  have hM15 : Mem [] w w12 [⟨31, 2, (obj b11), 1, [.string (sb (c.key)), .int .i64 (c.score)]⟩, ⟨31, 2, (obj b6), 1, [.string (sb (b.key)), .int .i64 (b.score)]⟩, ⟨31, 2, (obj b1), 1, [.string (sb (a.key)), .int .i64 (a.score)]⟩] := hM14
  have o18 : (Instr.box 31 (.agg #[.string (sb (c.key)), .int .i64 (c.score)])).run Try.prog w7 = .ok (.pointer (some (⟨b11, 0, none⟩))) w12 := hr13
  refine GoS.run [3, 4, 5] [.n, .n, .u (.pointer (some (⟨b1, 0, none⟩))) (w2), .u (.pointer (some (⟨b6, 0, none⟩))) (w7), .u (.pointer (some (⟨b11, 0, none⟩))) (w12), .n, .n, .n] _ [.code (csub (cd Try.f5) [1,0]), .code (csub (cd Try.f5) [1,1])] [(3, .pointer (some (⟨b1, 0, none⟩))), (4, .pointer (some (⟨b6, 0, none⟩))), (5, .pointer (some (⟨b11, 0, none⟩)))] w12 (by kernel_rfl) (.cons o16 (.cons o17 (.cons o18 .nil))) ?_
  refine GoS.drawC (fun W_ => Kept [] w12 W_) 1 (by kernel_rfl) [3, 4, 5, 7, 8] [.h (.agg #[.string (sb (a.key)), .int .i64 (a.score)]), .h (.agg #[.string (sb (b.key)), .int .i64 (b.score)]), .h (.bool (better a b)), .h (.agg #[.string (sb (b.key)), .int .i64 (b.score)]), .h (.agg #[.string (sb (a.key)), .int .i64 (a.score)]), .h (.bool (better b a)), .u (.bool (better a b)) w12, .u (.bool (better b a)) w12] (fun W_ => [(Instr.loadAt 31 (.pointer (some (⟨b1, 0, none⟩)))).run Try.prog W_ = .ok (.agg #[.string (sb (a.key)), .int .i64 (a.score)]) W_, (Instr.loadAt 31 (.pointer (some (⟨b6, 0, none⟩)))).run Try.prog W_ = .ok (.agg #[.string (sb (b.key)), .int .i64 (b.score)]) W_, (W_ = W_) ∧ Calls Try.prog 16 #[.agg #[.string (sb (a.key)), .int .i64 (a.score)], .agg #[.string (sb (b.key)), .int .i64 (b.score)]] W_ (fun e W2 => e = .returned (.bool (better a b)) ∧ (fun W_ => Kept [] w12 W_) W2), (Instr.loadAt 31 (.pointer (some (⟨b6, 0, none⟩)))).run Try.prog W_ = .ok (.agg #[.string (sb (b.key)), .int .i64 (b.score)]) W_, (Instr.loadAt 31 (.pointer (some (⟨b1, 0, none⟩)))).run Try.prog W_ = .ok (.agg #[.string (sb (a.key)), .int .i64 (a.score)]) W_, (W_ = W_) ∧ Calls Try.prog 16 #[.agg #[.string (sb (b.key)), .int .i64 (b.score)], .agg #[.string (sb (a.key)), .int .i64 (a.score)]] W_ (fun e W2 => e = .returned (.bool (better b a)) ∧ (fun W_ => Kept [] w12 W_) W2)]) [(.bool (better a b), .bool (better a b)), (.bool (better b a), .bool (better b a))] [(3, .pointer (some (⟨b1, 0, none⟩))), (4, .pointer (some (⟨b6, 0, none⟩))), (5, .pointer (some (⟨b11, 0, none⟩))), (7, .bool (better a b)), (8, .bool (better b a))] (by kernel_rfl) (by kernel_rfl) ([(8, .bool (better b a)), (7, .bool (better a b)), (14, .bool (better b a)), (13, .agg #[.string (sb (a.key)), .int .i64 (a.score)]), (12, .agg #[.string (sb (b.key)), .int .i64 (b.score)]), (11, .bool (better a b)), (10, .agg #[.string (sb (b.key)), .int .i64 (b.score)]), (9, .agg #[.string (sb (a.key)), .int .i64 (a.score)])] ++ [(3, .pointer (some (⟨b1, 0, none⟩))), (4, .pointer (some (⟨b6, 0, none⟩))), (5, .pointer (some (⟨b11, 0, none⟩)))]) (fun W_ => by kernel_rfl) (by kernel_rfl) (.cons rfl (.cons rfl Obs.nil)) (Kept.drewN _ _ 1) (fun W_ hW_ => (.cons (c_loads (ys := [.string (sb (a.key)), .int .i64 (a.score)]) aE31 ((hM15.rd 2 rfl).kept0 hW_) (cel_obj b1 0) rfl (by intro j u hj; match j, hj with | 0, hj => exact hj | 1, hj => exact hj | n + 2, hj => cases hj)) (.cons (c_loads (ys := [.string (sb (b.key)), .int .i64 (b.score)]) aE31 ((hM15.rd 1 rfl).kept0 hW_) (cel_obj b6 0) rfl (by intro j u hj; match j, hj with | 0, hj => exact hj | 1, hj => exact hj | n + 2, hj => cases hj)) (.cons (⟨rfl, Calls.mono (better_c a b W_) (fun e W2 h => ⟨h.1, Kept.trans hW_ h.2.kept⟩)⟩) (.cons (c_loads (ys := [.string (sb (b.key)), .int .i64 (b.score)]) aE31 ((hM15.rd 1 rfl).kept0 hW_) (cel_obj b6 0) rfl (by intro j u hj; match j, hj with | 0, hj => exact hj | 1, hj => exact hj | n + 2, hj => cases hj)) (.cons (c_loads (ys := [.string (sb (a.key)), .int .i64 (a.score)]) aE31 ((hM15.rd 2 rfl).kept0 hW_) (cel_obj b1 0) rfl (by intro j u hj; match j, hj with | 0, hj => exact hj | 1, hj => exact hj | n + 2, hj => cases hj)) (.cons (⟨rfl, Calls.mono (better_c b a W_) (fun e W2 h => ⟨h.1, Kept.trans hW_ h.2.kept⟩)⟩) Obs.nil))))))) (fun w19 hw20 => ?_)
  have hM21 := hM15.ext hw20
  refine GoS.run [3, 4, 5, 7, 8] [.n, .n] _ [.inRegion (cops (csub (cd Try.f5) [1,1,0])) [0,1,2,3,4,5,6,7,8,9,10,11,12,13,14,15,16,17,18,19,20,21,22,23,24,25,26,27,28,29,30,31,32,33,34,35,36,37,38,39,40,41], .code (csub (cd Try.f5) [1,1,1])] [(3, .pointer (some (⟨b1, 0, none⟩))), (4, .pointer (some (⟨b6, 0, none⟩))), (5, .pointer (some (⟨b11, 0, none⟩))), (7, .bool (better a b)), (8, .bool (better b a))] w19 (by kernel_rfl) .nil ?_
  refine GoS.call [3, 4, 5, 7, 8] 9 #[] (some 15) [.inRegion (cops (csub (cd Try.f5) [1,1,0])) [1,2,3,4,5,6,7,8,9,10,11,12,13,14,15,16,17,18,19,20,21,22,23,24,25,26,27,28,29,30,31,32,33,34,35,36,37,38,39,40,41], .code (csub (cd Try.f5) [1,1,1])] [(3, .pointer (some (⟨b1, 0, none⟩))), (4, .pointer (some (⟨b6, 0, none⟩))), (5, .pointer (some (⟨b11, 0, none⟩))), (7, .bool (better a b)), (8, .bool (better b a))] (by kernel_rfl) (awake_c w19) ?_
  rintro _ w22 ⟨rfl, m23⟩
  refine ⟨_, rfl, ?_⟩
  have hM24 := Mem.join hM21 m23
  have o25 : (Instr.loadAt 31 (.pointer (some (⟨b1, 0, none⟩)))).run Try.prog w22 = .ok (.agg #[.string (sb (a.key)), .int .i64 (a.score)]) w22 := c_loads (ys := [.string (sb (a.key)), .int .i64 (a.score)]) aE31 (hM24.rd 2 rfl) (cel_obj b1 0) rfl (by intro j u hj; match j, hj with | 0, hj => exact hj | 1, hj => exact hj | n + 2, hj => cases hj)
  have o26 : (Instr.loadAt 31 (.pointer (some (⟨b6, 0, none⟩)))).run Try.prog w22 = .ok (.agg #[.string (sb (b.key)), .int .i64 (b.score)]) w22 := c_loads (ys := [.string (sb (b.key)), .int .i64 (b.score)]) aE31 (hM24.rd 1 rfl) (cel_obj b6 0) rfl (by intro j u hj; match j, hj with | 0, hj => exact hj | 1, hj => exact hj | n + 2, hj => cases hj)
  refine GoS.run [3, 4, 5, 7, 8, 16, 17, 18, 19] [.n, .n, .h (.agg #[.string (sb (a.key)), .int .i64 (a.score)]), .h (.agg #[.string (sb (b.key)), .int .i64 (b.score)])] _ [.inRegion (cops (csub (cd Try.f5) [1,1,0])) [5,6,7,8,9,10,11,12,13,14,15,16,17,18,19,20,21,22,23,24,25,26,27,28,29,30,31,32,33,34,35,36,37,38,39,40,41], .code (csub (cd Try.f5) [1,1,1])] [(3, .pointer (some (⟨b1, 0, none⟩))), (4, .pointer (some (⟨b6, 0, none⟩))), (5, .pointer (some (⟨b11, 0, none⟩))), (7, .bool (better a b)), (8, .bool (better b a)), (16, .bool true), (17, .bool (better a b)), (18, .agg #[.string (sb (a.key)), .int .i64 (a.score)]), (19, .agg #[.string (sb (b.key)), .int .i64 (b.score)])] w22 (by kernel_rfl) (.cons o25 (.cons o26 .nil)) ?_
  refine GoS.call [3, 4, 5, 7, 8, 16, 17] 12 #[.agg #[.string (sb (a.key)), .int .i64 (a.score)], .agg #[.string (sb (b.key)), .int .i64 (b.score)]] (some 20) [.inRegion (cops (csub (cd Try.f5) [1,1,0])) [6,7,8,9,10,11,12,13,14,15,16,17,18,19,20,21,22,23,24,25,26,27,28,29,30,31,32,33,34,35,36,37,38,39,40,41], .code (csub (cd Try.f5) [1,1,1])] [(3, .pointer (some (⟨b1, 0, none⟩))), (4, .pointer (some (⟨b6, 0, none⟩))), (5, .pointer (some (⟨b11, 0, none⟩))), (7, .bool (better a b)), (8, .bool (better b a)), (16, .bool true), (17, .bool (better a b))] (by kernel_rfl) (rbetter_c a b w22) ?_
  rintro _ w27 ⟨rfl, m28⟩
  refine ⟨_, rfl, ?_⟩
  have hM29 := Mem.join hM24 m28
  have o30 : Try.prog.underlying 4 = some .bool ∧ w27 = w27 ∧ Value.bool true = .bool ((better a b) == (better a b)) := ⟨by kernel_rfl, rfl, congrArg Value.bool (Eq.symm (beq_self_eq_true _))⟩
  refine GoS.run [3, 4, 5, 7, 8, 23, 25] [.h (.bool true), .n, .n, .n, .n] _ [.inRegion (cops (csub (cd Try.f5) [1,1,0])) [11,12,13,14,15,16,17,18,19,20,21,22,23,24,25,26,27,28,29,30,31,32,33,34,35,36,37,38,39,40,41], .code (csub (cd Try.f5) [1,1,1])] [(3, .pointer (some (⟨b1, 0, none⟩))), (4, .pointer (some (⟨b6, 0, none⟩))), (5, .pointer (some (⟨b11, 0, none⟩))), (7, .bool (better a b)), (8, .bool (better b a)), (23, .bool true), (25, .bool (better a b))] w27 (by kernel_rfl) (.cons o30 .nil) ?_
  refine GoS.fork 25 (better a b) (by kernel_rfl) (fun h31 => ?_) (fun h31 => ?_)
  ·
    refine GoS.run [3, 4, 5, 7, 8, 30] [.n, .n, .n, .n, .n] _ [.inRegion (cops (csub (cd Try.f5) [1,1,0])) [16,17,18,19,20,21,22,23,24,25,26,27,28,29,30,31,32,33,34,35,36,37,38,39,40,41], .code (csub (cd Try.f5) [1,1,1])] [(3, .pointer (some (⟨b1, 0, none⟩))), (4, .pointer (some (⟨b6, 0, none⟩))), (5, .pointer (some (⟨b11, 0, none⟩))), (7, .bool (better a b)), (8, .bool (better b a)), (30, .bool (!(better b a)))] w27 (by kernel_rfl) .nil ?_
    refine GoS.fork 30 (!(better b a)) (by kernel_rfl) (fun h32 => ?_) (fun h32 => ?_)
    ·
      refine GoS.run [3, 4, 5, 7, 8, 30, 32] [.n, .n] _ [.inRegion (cops (csub (cd Try.f5) [1,1,0])) [18,19,20,21,22,23,24,25,26,27,28,29,30,31,32,33,34,35,36,37,38,39,40,41], .code (csub (cd Try.f5) [1,1,1])] [(3, .pointer (some (⟨b1, 0, none⟩))), (4, .pointer (some (⟨b6, 0, none⟩))), (5, .pointer (some (⟨b11, 0, none⟩))), (7, .bool (better a b)), (8, .bool (better b a)), (30, .bool true), (32, .bool (better a b))] w27 (by kernel_rfl) .nil ?_
      refine GoS.fork 32 (better a b) (by kernel_rfl) (fun h33 => ?_) (fun h33 => ?_)
      ·
        refine GoS.run [3, 4, 5, 41, 44] [.n, .n, .n, .n, .n, .n, .n, .n, .n, .n, .n, .n] _ [.inRegion (cops (csub (cd Try.f5) [1,1,0])) [30,31,32,33,34,35,36,37,38,39,40,41], .code (csub (cd Try.f5) [1,1,1])] [(3, .pointer (some (⟨b1, 0, none⟩))), (4, .pointer (some (⟨b6, 0, none⟩))), (5, .pointer (some (⟨b11, 0, none⟩))), (41, .bool true), (44, .bool (!(better a b)))] w27 (by kernel_rfl) .nil ?_
        refine GoS.fork 44 (!(better a b)) (by kernel_rfl) (fun h34 => ?_) (fun h34 => ?_)
        ·
          have hM35 : Mem [] w w27 [] := hM29.sub (List.Sublist.cons _ (List.Sublist.cons _ (List.Sublist.cons _ (List.Sublist.refl _))))
          refine GoS.run [6] [.n, .n, .n, .n, .n, .n, .n, .n, .n, .n, .n, .n] _ [.inRegion (cops (csub (cd Try.f5) [1,1,0])) [], .code (csub (cd Try.f5) [1,1,1])] [(6, .bool true)] w27 (by kernel_rfl) .nil ?_
          refine GoS.run [6] [.n] _ [.code (csub (cd Try.f5) [1,1,1])] [(6, .bool true)] w27 (by kernel_rfl) .nil ?_
          refine GoS.ret (fn := Try.f5) (v := (.bool true)) Try.func5 (by kernel_rfl) ?_
          rw [hR]
          refine ⟨ret_bool ?_, (hM35.sub (List.nil_sublist _)).below⟩
          first | rfl | exact better_trans (b := b) (by simp_all) (by simp_all) | exact (better_trans (b := b) (by simp_all) (by simp_all)).symm | (have q := better_asymm (a := a) (b := b) (by simp_all); simp_all; done) | (have q := better_tot (a := a) (b := b) (by simp_all) (by simp_all); subst q; simp_all; done) | (simp_all; done)
        ·
          have o36 : (Instr.loadAt 31 (.pointer (some (⟨b6, 0, none⟩)))).run Try.prog w27 = .ok (.agg #[.string (sb (b.key)), .int .i64 (b.score)]) w27 := c_loads (ys := [.string (sb (b.key)), .int .i64 (b.score)]) aE31 (hM29.rd 1 rfl) (cel_obj b6 0) rfl (by intro j u hj; match j, hj with | 0, hj => exact hj | 1, hj => exact hj | n + 2, hj => cases hj)
          have o37 : (Instr.loadAt 31 (.pointer (some (⟨b11, 0, none⟩)))).run Try.prog w27 = .ok (.agg #[.string (sb (c.key)), .int .i64 (c.score)]) w27 := c_loads (ys := [.string (sb (c.key)), .int .i64 (c.score)]) aE31 (hM29.rd 0 rfl) (cel_obj b11 0) rfl (by intro j u hj; match j, hj with | 0, hj => exact hj | 1, hj => exact hj | n + 2, hj => cases hj)
          have hM38 : Mem [] w w27 [⟨31, 2, (obj b11), 1, [.string (sb (c.key)), .int .i64 (c.score)]⟩, ⟨31, 2, (obj b1), 1, [.string (sb (a.key)), .int .i64 (a.score)]⟩] := hM29.sub (List.Sublist.cons_cons _ (List.Sublist.cons _ (List.Sublist.cons_cons _ (List.Sublist.refl _))))
          refine GoS.run [3, 5, 41, 44, 45, 46] [.h (.agg #[.string (sb (b.key)), .int .i64 (b.score)]), .h (.agg #[.string (sb (c.key)), .int .i64 (c.score)])] _ [.inRegion (cops (csub (cd Try.f5) [1,1,0])) [32,33,34,35,36,37,38,39,40,41], .code (csub (cd Try.f5) [1,1,1])] [(3, .pointer (some (⟨b1, 0, none⟩))), (5, .pointer (some (⟨b11, 0, none⟩))), (41, .bool true), (44, .bool false), (45, .agg #[.string (sb (b.key)), .int .i64 (b.score)]), (46, .agg #[.string (sb (c.key)), .int .i64 (c.score)])] w27 (by kernel_rfl) (.cons o36 (.cons o37 .nil)) ?_
          refine GoS.call [3, 5, 41, 44] 16 #[.agg #[.string (sb (b.key)), .int .i64 (b.score)], .agg #[.string (sb (c.key)), .int .i64 (c.score)]] (some 47) [.inRegion (cops (csub (cd Try.f5) [1,1,0])) [33,34,35,36,37,38,39,40,41], .code (csub (cd Try.f5) [1,1,1])] [(3, .pointer (some (⟨b1, 0, none⟩))), (5, .pointer (some (⟨b11, 0, none⟩))), (41, .bool true), (44, .bool false)] (by kernel_rfl) (better_c b c w27) ?_
          rintro _ w39 ⟨rfl, m40⟩
          refine ⟨_, rfl, ?_⟩
          have hM41 := Mem.join hM38 m40
          refine GoS.run [3, 5, 41, 50] [.n, .n, .n] _ [.inRegion (cops (csub (cd Try.f5) [1,1,0])) [36,37,38,39,40,41], .code (csub (cd Try.f5) [1,1,1])] [(3, .pointer (some (⟨b1, 0, none⟩))), (5, .pointer (some (⟨b11, 0, none⟩))), (41, .bool true), (50, .bool (!(better b c)))] w39 (by kernel_rfl) .nil ?_
          refine GoS.fork 50 (!(better b c)) (by kernel_rfl) (fun h42 => ?_) (fun h42 => ?_)
          ·
            have hM43 : Mem [] w w39 [] := hM41.sub (List.Sublist.cons _ (List.Sublist.cons _ (List.Sublist.refl _)))
            refine GoS.run [6] [.n, .n, .n, .n, .n, .n] _ [.inRegion (cops (csub (cd Try.f5) [1,1,0])) [], .code (csub (cd Try.f5) [1,1,1])] [(6, .bool true)] w39 (by kernel_rfl) .nil ?_
            refine GoS.run [6] [.n] _ [.code (csub (cd Try.f5) [1,1,1])] [(6, .bool true)] w39 (by kernel_rfl) .nil ?_
            refine GoS.ret (fn := Try.f5) (v := (.bool true)) Try.func5 (by kernel_rfl) ?_
            rw [hR]
            refine ⟨ret_bool ?_, (hM43.sub (List.nil_sublist _)).below⟩
            first | rfl | exact better_trans (b := b) (by simp_all) (by simp_all) | exact (better_trans (b := b) (by simp_all) (by simp_all)).symm | (have q := better_asymm (a := a) (b := b) (by simp_all); simp_all; done) | (have q := better_tot (a := a) (b := b) (by simp_all) (by simp_all); subst q; simp_all; done) | (simp_all; done)
          ·
            have o44 : (Instr.loadAt 31 (.pointer (some (⟨b1, 0, none⟩)))).run Try.prog w39 = .ok (.agg #[.string (sb (a.key)), .int .i64 (a.score)]) w39 := c_loads (ys := [.string (sb (a.key)), .int .i64 (a.score)]) aE31 (hM41.rd 1 rfl) (cel_obj b1 0) rfl (by intro j u hj; match j, hj with | 0, hj => exact hj | 1, hj => exact hj | n + 2, hj => cases hj)
            have o45 : (Instr.loadAt 31 (.pointer (some (⟨b11, 0, none⟩)))).run Try.prog w39 = .ok (.agg #[.string (sb (c.key)), .int .i64 (c.score)]) w39 := c_loads (ys := [.string (sb (c.key)), .int .i64 (c.score)]) aE31 (hM41.rd 0 rfl) (cel_obj b11 0) rfl (by intro j u hj; match j, hj with | 0, hj => exact hj | 1, hj => exact hj | n + 2, hj => cases hj)
            have hM46 : Mem [] w w39 [] := hM41.sub (List.Sublist.cons _ (List.Sublist.cons _ (List.Sublist.refl _)))
            refine GoS.run [41, 50, 51, 52] [.h (.agg #[.string (sb (a.key)), .int .i64 (a.score)]), .h (.agg #[.string (sb (c.key)), .int .i64 (c.score)])] _ [.inRegion (cops (csub (cd Try.f5) [1,1,0])) [38,39,40,41], .code (csub (cd Try.f5) [1,1,1])] [(41, .bool true), (50, .bool false), (51, .agg #[.string (sb (a.key)), .int .i64 (a.score)]), (52, .agg #[.string (sb (c.key)), .int .i64 (c.score)])] w39 (by kernel_rfl) (.cons o44 (.cons o45 .nil)) ?_
            refine GoS.call [41, 50] 16 #[.agg #[.string (sb (a.key)), .int .i64 (a.score)], .agg #[.string (sb (c.key)), .int .i64 (c.score)]] (some 53) [.inRegion (cops (csub (cd Try.f5) [1,1,0])) [39,40,41], .code (csub (cd Try.f5) [1,1,1])] [(41, .bool true), (50, .bool false)] (by kernel_rfl) (better_c a c w39) ?_
            rintro _ w47 ⟨rfl, m48⟩
            refine ⟨_, rfl, ?_⟩
            have hM49 := Mem.join hM46 m48
            refine GoS.run [6] [.n, .n, .n] _ [.inRegion (cops (csub (cd Try.f5) [1,1,0])) [], .code (csub (cd Try.f5) [1,1,1])] [(6, .bool (better a c))] w47 (by kernel_rfl) .nil ?_
            refine GoS.run [6] [.n] _ [.code (csub (cd Try.f5) [1,1,1])] [(6, .bool (better a c))] w47 (by kernel_rfl) .nil ?_
            refine GoS.ret (fn := Try.f5) (v := (.bool (better a c))) Try.func5 (by kernel_rfl) ?_
            rw [hR]
            refine ⟨ret_bool ?_, (hM49.sub (List.nil_sublist _)).below⟩
            first | rfl | exact better_trans (b := b) (by simp_all) (by simp_all) | exact (better_trans (b := b) (by simp_all) (by simp_all)).symm | (have q := better_asymm (a := a) (b := b) (by simp_all); simp_all; done) | (have q := better_tot (a := a) (b := b) (by simp_all) (by simp_all); subst q; simp_all; done) | (simp_all; done)
      ·
        rw [h31] at h33; cases h33
    ·
      have hM50 : Mem [] w w27 [] := hM29.sub (List.Sublist.cons _ (List.Sublist.cons _ (List.Sublist.cons _ (List.Sublist.refl _))))
      refine GoS.run [6] [.n, .n, .n, .n, .n, .n, .n, .n, .n, .n, .n, .n, .n, .n, .n, .n, .n, .n, .n, .n, .n, .n, .n, .n, .n, .n] _ [.inRegion (cops (csub (cd Try.f5) [1,1,0])) [], .code (csub (cd Try.f5) [1,1,1])] [(6, .bool false)] w27 (by kernel_rfl) .nil ?_
      refine GoS.run [6] [.n] _ [.code (csub (cd Try.f5) [1,1,1])] [(6, .bool false)] w27 (by kernel_rfl) .nil ?_
      refine GoS.ret (fn := Try.f5) (v := (.bool false)) Try.func5 (by kernel_rfl) ?_
      rw [hR]
      refine ⟨ret_bool ?_, (hM50.sub (List.nil_sublist _)).below⟩
      first | rfl | exact better_trans (b := b) (by simp_all) (by simp_all) | exact (better_trans (b := b) (by simp_all) (by simp_all)).symm | (have q := better_asymm (a := a) (b := b) (by simp_all); simp_all; done) | (have q := better_tot (a := a) (b := b) (by simp_all) (by simp_all); subst q; simp_all; done) | (simp_all; done)
  ·
    refine GoS.run [3, 4, 5, 7, 8, 30, 32] [.n, .n, .n, .n, .n, .n, .n] _ [.inRegion (cops (csub (cd Try.f5) [1,1,0])) [18,19,20,21,22,23,24,25,26,27,28,29,30,31,32,33,34,35,36,37,38,39,40,41], .code (csub (cd Try.f5) [1,1,1])] [(3, .pointer (some (⟨b1, 0, none⟩))), (4, .pointer (some (⟨b6, 0, none⟩))), (5, .pointer (some (⟨b11, 0, none⟩))), (7, .bool (better a b)), (8, .bool (better b a)), (30, .bool true), (32, .bool (better a b))] w27 (by kernel_rfl) .nil ?_
    refine GoS.fork 32 (better a b) (by kernel_rfl) (fun h51 => ?_) (fun h51 => ?_)
    ·
      rw [h31] at h51; cases h51
    ·
      refine GoS.run [3, 4, 5, 7, 30, 35] [.n, .n, .n] _ [.inRegion (cops (csub (cd Try.f5) [1,1,0])) [21,22,23,24,25,26,27,28,29,30,31,32,33,34,35,36,37,38,39,40,41], .code (csub (cd Try.f5) [1,1,1])] [(3, .pointer (some (⟨b1, 0, none⟩))), (4, .pointer (some (⟨b6, 0, none⟩))), (5, .pointer (some (⟨b11, 0, none⟩))), (7, .bool (better a b)), (30, .bool true), (35, .bool (better b a))] w27 (by kernel_rfl) .nil ?_
      refine GoS.fork 35 (better b a) (by kernel_rfl) (fun h52 => ?_) (fun h52 => ?_)
      ·
        refine GoS.run [3, 4, 5, 41, 44] [.n, .n, .n, .n, .n, .n, .n, .n, .n] _ [.inRegion (cops (csub (cd Try.f5) [1,1,0])) [30,31,32,33,34,35,36,37,38,39,40,41], .code (csub (cd Try.f5) [1,1,1])] [(3, .pointer (some (⟨b1, 0, none⟩))), (4, .pointer (some (⟨b6, 0, none⟩))), (5, .pointer (some (⟨b11, 0, none⟩))), (41, .bool true), (44, .bool (!(better a b)))] w27 (by kernel_rfl) .nil ?_
        refine GoS.fork 44 (!(better a b)) (by kernel_rfl) (fun h53 => ?_) (fun h53 => ?_)
        ·
          have hM54 : Mem [] w w27 [] := hM29.sub (List.Sublist.cons _ (List.Sublist.cons _ (List.Sublist.cons _ (List.Sublist.refl _))))
          refine GoS.run [6] [.n, .n, .n, .n, .n, .n, .n, .n, .n, .n, .n, .n] _ [.inRegion (cops (csub (cd Try.f5) [1,1,0])) [], .code (csub (cd Try.f5) [1,1,1])] [(6, .bool true)] w27 (by kernel_rfl) .nil ?_
          refine GoS.run [6] [.n] _ [.code (csub (cd Try.f5) [1,1,1])] [(6, .bool true)] w27 (by kernel_rfl) .nil ?_
          refine GoS.ret (fn := Try.f5) (v := (.bool true)) Try.func5 (by kernel_rfl) ?_
          rw [hR]
          refine ⟨ret_bool ?_, (hM54.sub (List.nil_sublist _)).below⟩
          first | rfl | exact better_trans (b := b) (by simp_all) (by simp_all) | exact (better_trans (b := b) (by simp_all) (by simp_all)).symm | (have q := better_asymm (a := a) (b := b) (by simp_all); simp_all; done) | (have q := better_tot (a := a) (b := b) (by simp_all) (by simp_all); subst q; simp_all; done) | (simp_all; done)
        ·
          have o55 : (Instr.loadAt 31 (.pointer (some (⟨b6, 0, none⟩)))).run Try.prog w27 = .ok (.agg #[.string (sb (b.key)), .int .i64 (b.score)]) w27 := c_loads (ys := [.string (sb (b.key)), .int .i64 (b.score)]) aE31 (hM29.rd 1 rfl) (cel_obj b6 0) rfl (by intro j u hj; match j, hj with | 0, hj => exact hj | 1, hj => exact hj | n + 2, hj => cases hj)
          have o56 : (Instr.loadAt 31 (.pointer (some (⟨b11, 0, none⟩)))).run Try.prog w27 = .ok (.agg #[.string (sb (c.key)), .int .i64 (c.score)]) w27 := c_loads (ys := [.string (sb (c.key)), .int .i64 (c.score)]) aE31 (hM29.rd 0 rfl) (cel_obj b11 0) rfl (by intro j u hj; match j, hj with | 0, hj => exact hj | 1, hj => exact hj | n + 2, hj => cases hj)
          have hM57 : Mem [] w w27 [⟨31, 2, (obj b11), 1, [.string (sb (c.key)), .int .i64 (c.score)]⟩, ⟨31, 2, (obj b1), 1, [.string (sb (a.key)), .int .i64 (a.score)]⟩] := hM29.sub (List.Sublist.cons_cons _ (List.Sublist.cons _ (List.Sublist.cons_cons _ (List.Sublist.refl _))))
          refine GoS.run [3, 5, 41, 44, 45, 46] [.h (.agg #[.string (sb (b.key)), .int .i64 (b.score)]), .h (.agg #[.string (sb (c.key)), .int .i64 (c.score)])] _ [.inRegion (cops (csub (cd Try.f5) [1,1,0])) [32,33,34,35,36,37,38,39,40,41], .code (csub (cd Try.f5) [1,1,1])] [(3, .pointer (some (⟨b1, 0, none⟩))), (5, .pointer (some (⟨b11, 0, none⟩))), (41, .bool true), (44, .bool false), (45, .agg #[.string (sb (b.key)), .int .i64 (b.score)]), (46, .agg #[.string (sb (c.key)), .int .i64 (c.score)])] w27 (by kernel_rfl) (.cons o55 (.cons o56 .nil)) ?_
          refine GoS.call [3, 5, 41, 44] 16 #[.agg #[.string (sb (b.key)), .int .i64 (b.score)], .agg #[.string (sb (c.key)), .int .i64 (c.score)]] (some 47) [.inRegion (cops (csub (cd Try.f5) [1,1,0])) [33,34,35,36,37,38,39,40,41], .code (csub (cd Try.f5) [1,1,1])] [(3, .pointer (some (⟨b1, 0, none⟩))), (5, .pointer (some (⟨b11, 0, none⟩))), (41, .bool true), (44, .bool false)] (by kernel_rfl) (better_c b c w27) ?_
          rintro _ w58 ⟨rfl, m59⟩
          refine ⟨_, rfl, ?_⟩
          have hM60 := Mem.join hM57 m59
          refine GoS.run [3, 5, 41, 50] [.n, .n, .n] _ [.inRegion (cops (csub (cd Try.f5) [1,1,0])) [36,37,38,39,40,41], .code (csub (cd Try.f5) [1,1,1])] [(3, .pointer (some (⟨b1, 0, none⟩))), (5, .pointer (some (⟨b11, 0, none⟩))), (41, .bool true), (50, .bool (!(better b c)))] w58 (by kernel_rfl) .nil ?_
          refine GoS.fork 50 (!(better b c)) (by kernel_rfl) (fun h61 => ?_) (fun h61 => ?_)
          ·
            have hM62 : Mem [] w w58 [] := hM60.sub (List.Sublist.cons _ (List.Sublist.cons _ (List.Sublist.refl _)))
            refine GoS.run [6] [.n, .n, .n, .n, .n, .n] _ [.inRegion (cops (csub (cd Try.f5) [1,1,0])) [], .code (csub (cd Try.f5) [1,1,1])] [(6, .bool true)] w58 (by kernel_rfl) .nil ?_
            refine GoS.run [6] [.n] _ [.code (csub (cd Try.f5) [1,1,1])] [(6, .bool true)] w58 (by kernel_rfl) .nil ?_
            refine GoS.ret (fn := Try.f5) (v := (.bool true)) Try.func5 (by kernel_rfl) ?_
            rw [hR]
            refine ⟨ret_bool ?_, (hM62.sub (List.nil_sublist _)).below⟩
            first | rfl | exact better_trans (b := b) (by simp_all) (by simp_all) | exact (better_trans (b := b) (by simp_all) (by simp_all)).symm | (have q := better_asymm (a := a) (b := b) (by simp_all); simp_all; done) | (have q := better_tot (a := a) (b := b) (by simp_all) (by simp_all); subst q; simp_all; done) | (simp_all; done)
          ·
            have o63 : (Instr.loadAt 31 (.pointer (some (⟨b1, 0, none⟩)))).run Try.prog w58 = .ok (.agg #[.string (sb (a.key)), .int .i64 (a.score)]) w58 := c_loads (ys := [.string (sb (a.key)), .int .i64 (a.score)]) aE31 (hM60.rd 1 rfl) (cel_obj b1 0) rfl (by intro j u hj; match j, hj with | 0, hj => exact hj | 1, hj => exact hj | n + 2, hj => cases hj)
            have o64 : (Instr.loadAt 31 (.pointer (some (⟨b11, 0, none⟩)))).run Try.prog w58 = .ok (.agg #[.string (sb (c.key)), .int .i64 (c.score)]) w58 := c_loads (ys := [.string (sb (c.key)), .int .i64 (c.score)]) aE31 (hM60.rd 0 rfl) (cel_obj b11 0) rfl (by intro j u hj; match j, hj with | 0, hj => exact hj | 1, hj => exact hj | n + 2, hj => cases hj)
            have hM65 : Mem [] w w58 [] := hM60.sub (List.Sublist.cons _ (List.Sublist.cons _ (List.Sublist.refl _)))
            refine GoS.run [41, 50, 51, 52] [.h (.agg #[.string (sb (a.key)), .int .i64 (a.score)]), .h (.agg #[.string (sb (c.key)), .int .i64 (c.score)])] _ [.inRegion (cops (csub (cd Try.f5) [1,1,0])) [38,39,40,41], .code (csub (cd Try.f5) [1,1,1])] [(41, .bool true), (50, .bool false), (51, .agg #[.string (sb (a.key)), .int .i64 (a.score)]), (52, .agg #[.string (sb (c.key)), .int .i64 (c.score)])] w58 (by kernel_rfl) (.cons o63 (.cons o64 .nil)) ?_
            refine GoS.call [41, 50] 16 #[.agg #[.string (sb (a.key)), .int .i64 (a.score)], .agg #[.string (sb (c.key)), .int .i64 (c.score)]] (some 53) [.inRegion (cops (csub (cd Try.f5) [1,1,0])) [39,40,41], .code (csub (cd Try.f5) [1,1,1])] [(41, .bool true), (50, .bool false)] (by kernel_rfl) (better_c a c w58) ?_
            rintro _ w66 ⟨rfl, m67⟩
            refine ⟨_, rfl, ?_⟩
            have hM68 := Mem.join hM65 m67
            refine GoS.run [6] [.n, .n, .n] _ [.inRegion (cops (csub (cd Try.f5) [1,1,0])) [], .code (csub (cd Try.f5) [1,1,1])] [(6, .bool (better a c))] w66 (by kernel_rfl) .nil ?_
            refine GoS.run [6] [.n] _ [.code (csub (cd Try.f5) [1,1,1])] [(6, .bool (better a c))] w66 (by kernel_rfl) .nil ?_
            refine GoS.ret (fn := Try.f5) (v := (.bool (better a c))) Try.func5 (by kernel_rfl) ?_
            rw [hR]
            refine ⟨ret_bool ?_, (hM68.sub (List.nil_sublist _)).below⟩
            first | rfl | exact better_trans (b := b) (by simp_all) (by simp_all) | exact (better_trans (b := b) (by simp_all) (by simp_all)).symm | (have q := better_asymm (a := a) (b := b) (by simp_all); simp_all; done) | (have q := better_tot (a := a) (b := b) (by simp_all) (by simp_all); subst q; simp_all; done) | (simp_all; done)
      ·
        have o69 : (Instr.loadAt 31 (.pointer (some (⟨b1, 0, none⟩)))).run Try.prog w27 = .ok (.agg #[.string (sb (a.key)), .int .i64 (a.score)]) w27 := c_loads (ys := [.string (sb (a.key)), .int .i64 (a.score)]) aE31 (hM29.rd 2 rfl) (cel_obj b1 0) rfl (by intro j u hj; match j, hj with | 0, hj => exact hj | 1, hj => exact hj | n + 2, hj => cases hj)
        have o70 : (Instr.loadAt 31 (.pointer (some (⟨b6, 0, none⟩)))).run Try.prog w27 = .ok (.agg #[.string (sb (b.key)), .int .i64 (b.score)]) w27 := c_loads (ys := [.string (sb (b.key)), .int .i64 (b.score)]) aE31 (hM29.rd 1 rfl) (cel_obj b6 0) rfl (by intro j u hj; match j, hj with | 0, hj => exact hj | 1, hj => exact hj | n + 2, hj => cases hj)
        have o71 : Try.prog.eqGuardType Try.prog.depth 31 = false ∧ (binOp .eql 31 (.agg #[.string (sb (a.key)), .int .i64 (a.score)]) (.agg #[.string (sb (b.key)), .int .i64 (b.score)])).run Try.prog w27 = .ok (.bool ((decide (a.key = b.key)) && (a.score == b.score))) w27 := f_ageq eT31 (xs := [.string (sb (a.key)), .int .i64 (a.score)]) (ys := [.string (sb (b.key)), .int .i64 (b.score)]) (r := (((sb (a.key)).toList == (sb (b.key)).toList) && ((a.score == b.score) && true))) (by kernel_rfl) (by simp [sb_beq])
        refine GoS.run [3, 4, 5, 7, 41] [.h (.agg #[.string (sb (a.key)), .int .i64 (a.score)]), .h (.agg #[.string (sb (b.key)), .int .i64 (b.score)]), .h (.bool ((decide (a.key = b.key)) && (a.score == b.score))), .n, .n, .n] _ [.inRegion (cops (csub (cd Try.f5) [1,1,0])) [27,28,29,30,31,32,33,34,35,36,37,38,39,40,41], .code (csub (cd Try.f5) [1,1,1])] [(3, .pointer (some (⟨b1, 0, none⟩))), (4, .pointer (some (⟨b6, 0, none⟩))), (5, .pointer (some (⟨b11, 0, none⟩))), (7, .bool (better a b)), (41, .bool ((decide (a.key = b.key)) && (a.score == b.score)))] w27 (by kernel_rfl) (.cons o69 (.cons o70 (.cons o71 .nil))) ?_
        refine GoS.fork 41 ((decide (a.key = b.key)) && (a.score == b.score)) (by kernel_rfl) (fun h72 => ?_) (fun h72 => ?_)
        ·
          have h72p : a.key = b.key := of_decide_eq_true (p_andl h72)
          have h72p1 : a.score = b.score := eq_of_beq (p_andr h72)
          refine GoS.run [3, 4, 5, 41, 44] [.n, .n, .n] _ [.inRegion (cops (csub (cd Try.f5) [1,1,0])) [30,31,32,33,34,35,36,37,38,39,40,41], .code (csub (cd Try.f5) [1,1,1])] [(3, .pointer (some (⟨b1, 0, none⟩))), (4, .pointer (some (⟨b6, 0, none⟩))), (5, .pointer (some (⟨b11, 0, none⟩))), (41, .bool true), (44, .bool (!(better a b)))] w27 (by kernel_rfl) .nil ?_
          refine GoS.fork 44 (!(better a b)) (by kernel_rfl) (fun h73 => ?_) (fun h73 => ?_)
          ·
            have hM74 : Mem [] w w27 [] := hM29.sub (List.Sublist.cons _ (List.Sublist.cons _ (List.Sublist.cons _ (List.Sublist.refl _))))
            refine GoS.run [6] [.n, .n, .n, .n, .n, .n, .n, .n, .n, .n, .n, .n] _ [.inRegion (cops (csub (cd Try.f5) [1,1,0])) [], .code (csub (cd Try.f5) [1,1,1])] [(6, .bool true)] w27 (by kernel_rfl) .nil ?_
            refine GoS.run [6] [.n] _ [.code (csub (cd Try.f5) [1,1,1])] [(6, .bool true)] w27 (by kernel_rfl) .nil ?_
            refine GoS.ret (fn := Try.f5) (v := (.bool true)) Try.func5 (by kernel_rfl) ?_
            rw [hR]
            refine ⟨ret_bool ?_, (hM74.sub (List.nil_sublist _)).below⟩
            first | rfl | exact better_trans (b := b) (by simp_all) (by simp_all) | exact (better_trans (b := b) (by simp_all) (by simp_all)).symm | (have q := better_asymm (a := a) (b := b) (by simp_all); simp_all; done) | (have q := better_tot (a := a) (b := b) (by simp_all) (by simp_all); subst q; simp_all; done) | (simp_all; done)
          ·
            have o75 : (Instr.loadAt 31 (.pointer (some (⟨b6, 0, none⟩)))).run Try.prog w27 = .ok (.agg #[.string (sb (b.key)), .int .i64 (b.score)]) w27 := c_loads (ys := [.string (sb (b.key)), .int .i64 (b.score)]) aE31 (hM29.rd 1 rfl) (cel_obj b6 0) rfl (by intro j u hj; match j, hj with | 0, hj => exact hj | 1, hj => exact hj | n + 2, hj => cases hj)
            have o76 : (Instr.loadAt 31 (.pointer (some (⟨b11, 0, none⟩)))).run Try.prog w27 = .ok (.agg #[.string (sb (c.key)), .int .i64 (c.score)]) w27 := c_loads (ys := [.string (sb (c.key)), .int .i64 (c.score)]) aE31 (hM29.rd 0 rfl) (cel_obj b11 0) rfl (by intro j u hj; match j, hj with | 0, hj => exact hj | 1, hj => exact hj | n + 2, hj => cases hj)
            have hM77 : Mem [] w w27 [⟨31, 2, (obj b11), 1, [.string (sb (c.key)), .int .i64 (c.score)]⟩, ⟨31, 2, (obj b1), 1, [.string (sb (a.key)), .int .i64 (a.score)]⟩] := hM29.sub (List.Sublist.cons_cons _ (List.Sublist.cons _ (List.Sublist.cons_cons _ (List.Sublist.refl _))))
            refine GoS.run [3, 5, 41, 44, 45, 46] [.h (.agg #[.string (sb (b.key)), .int .i64 (b.score)]), .h (.agg #[.string (sb (c.key)), .int .i64 (c.score)])] _ [.inRegion (cops (csub (cd Try.f5) [1,1,0])) [32,33,34,35,36,37,38,39,40,41], .code (csub (cd Try.f5) [1,1,1])] [(3, .pointer (some (⟨b1, 0, none⟩))), (5, .pointer (some (⟨b11, 0, none⟩))), (41, .bool true), (44, .bool false), (45, .agg #[.string (sb (b.key)), .int .i64 (b.score)]), (46, .agg #[.string (sb (c.key)), .int .i64 (c.score)])] w27 (by kernel_rfl) (.cons o75 (.cons o76 .nil)) ?_
            refine GoS.call [3, 5, 41, 44] 16 #[.agg #[.string (sb (b.key)), .int .i64 (b.score)], .agg #[.string (sb (c.key)), .int .i64 (c.score)]] (some 47) [.inRegion (cops (csub (cd Try.f5) [1,1,0])) [33,34,35,36,37,38,39,40,41], .code (csub (cd Try.f5) [1,1,1])] [(3, .pointer (some (⟨b1, 0, none⟩))), (5, .pointer (some (⟨b11, 0, none⟩))), (41, .bool true), (44, .bool false)] (by kernel_rfl) (better_c b c w27) ?_
            rintro _ w78 ⟨rfl, m79⟩
            refine ⟨_, rfl, ?_⟩
            have hM80 := Mem.join hM77 m79
            refine GoS.run [3, 5, 41, 50] [.n, .n, .n] _ [.inRegion (cops (csub (cd Try.f5) [1,1,0])) [36,37,38,39,40,41], .code (csub (cd Try.f5) [1,1,1])] [(3, .pointer (some (⟨b1, 0, none⟩))), (5, .pointer (some (⟨b11, 0, none⟩))), (41, .bool true), (50, .bool (!(better b c)))] w78 (by kernel_rfl) .nil ?_
            refine GoS.fork 50 (!(better b c)) (by kernel_rfl) (fun h81 => ?_) (fun h81 => ?_)
            ·
              have hM82 : Mem [] w w78 [] := hM80.sub (List.Sublist.cons _ (List.Sublist.cons _ (List.Sublist.refl _)))
              refine GoS.run [6] [.n, .n, .n, .n, .n, .n] _ [.inRegion (cops (csub (cd Try.f5) [1,1,0])) [], .code (csub (cd Try.f5) [1,1,1])] [(6, .bool true)] w78 (by kernel_rfl) .nil ?_
              refine GoS.run [6] [.n] _ [.code (csub (cd Try.f5) [1,1,1])] [(6, .bool true)] w78 (by kernel_rfl) .nil ?_
              refine GoS.ret (fn := Try.f5) (v := (.bool true)) Try.func5 (by kernel_rfl) ?_
              rw [hR]
              refine ⟨ret_bool ?_, (hM82.sub (List.nil_sublist _)).below⟩
              first | rfl | exact better_trans (b := b) (by simp_all) (by simp_all) | exact (better_trans (b := b) (by simp_all) (by simp_all)).symm | (have q := better_asymm (a := a) (b := b) (by simp_all); simp_all; done) | (have q := better_tot (a := a) (b := b) (by simp_all) (by simp_all); subst q; simp_all; done) | (simp_all; done)
            ·
              have o83 : (Instr.loadAt 31 (.pointer (some (⟨b1, 0, none⟩)))).run Try.prog w78 = .ok (.agg #[.string (sb (a.key)), .int .i64 (a.score)]) w78 := c_loads (ys := [.string (sb (a.key)), .int .i64 (a.score)]) aE31 (hM80.rd 1 rfl) (cel_obj b1 0) rfl (by intro j u hj; match j, hj with | 0, hj => exact hj | 1, hj => exact hj | n + 2, hj => cases hj)
              have o84 : (Instr.loadAt 31 (.pointer (some (⟨b11, 0, none⟩)))).run Try.prog w78 = .ok (.agg #[.string (sb (c.key)), .int .i64 (c.score)]) w78 := c_loads (ys := [.string (sb (c.key)), .int .i64 (c.score)]) aE31 (hM80.rd 0 rfl) (cel_obj b11 0) rfl (by intro j u hj; match j, hj with | 0, hj => exact hj | 1, hj => exact hj | n + 2, hj => cases hj)
              have hM85 : Mem [] w w78 [] := hM80.sub (List.Sublist.cons _ (List.Sublist.cons _ (List.Sublist.refl _)))
              refine GoS.run [41, 50, 51, 52] [.h (.agg #[.string (sb (a.key)), .int .i64 (a.score)]), .h (.agg #[.string (sb (c.key)), .int .i64 (c.score)])] _ [.inRegion (cops (csub (cd Try.f5) [1,1,0])) [38,39,40,41], .code (csub (cd Try.f5) [1,1,1])] [(41, .bool true), (50, .bool false), (51, .agg #[.string (sb (a.key)), .int .i64 (a.score)]), (52, .agg #[.string (sb (c.key)), .int .i64 (c.score)])] w78 (by kernel_rfl) (.cons o83 (.cons o84 .nil)) ?_
              refine GoS.call [41, 50] 16 #[.agg #[.string (sb (a.key)), .int .i64 (a.score)], .agg #[.string (sb (c.key)), .int .i64 (c.score)]] (some 53) [.inRegion (cops (csub (cd Try.f5) [1,1,0])) [39,40,41], .code (csub (cd Try.f5) [1,1,1])] [(41, .bool true), (50, .bool false)] (by kernel_rfl) (better_c a c w78) ?_
              rintro _ w86 ⟨rfl, m87⟩
              refine ⟨_, rfl, ?_⟩
              have hM88 := Mem.join hM85 m87
              refine GoS.run [6] [.n, .n, .n] _ [.inRegion (cops (csub (cd Try.f5) [1,1,0])) [], .code (csub (cd Try.f5) [1,1,1])] [(6, .bool (better a c))] w86 (by kernel_rfl) .nil ?_
              refine GoS.run [6] [.n] _ [.code (csub (cd Try.f5) [1,1,1])] [(6, .bool (better a c))] w86 (by kernel_rfl) .nil ?_
              refine GoS.ret (fn := Try.f5) (v := (.bool (better a c))) Try.func5 (by kernel_rfl) ?_
              rw [hR]
              refine ⟨ret_bool ?_, (hM88.sub (List.nil_sublist _)).below⟩
              first | rfl | exact better_trans (b := b) (by simp_all) (by simp_all) | exact (better_trans (b := b) (by simp_all) (by simp_all)).symm | (have q := better_asymm (a := a) (b := b) (by simp_all); simp_all; done) | (have q := better_tot (a := a) (b := b) (by simp_all) (by simp_all); subst q; simp_all; done) | (simp_all; done)
        ·
          have h72p : ¬ ((a.key = b.key) ∧ (a.score = b.score)) := p_no (p_iand (@decide_eq_true_iff (a.key = b.key) _) (@beq_iff_eq _ _ _ (a.score) (b.score))) h72
          have hM89 : Mem [] w w27 [] := hM29.sub (List.Sublist.cons _ (List.Sublist.cons _ (List.Sublist.cons _ (List.Sublist.refl _))))
          refine GoS.run [6] [.n, .n, .n, .n, .n, .n, .n, .n, .n, .n, .n, .n, .n, .n, .n] _ [.inRegion (cops (csub (cd Try.f5) [1,1,0])) [], .code (csub (cd Try.f5) [1,1,1])] [(6, .bool false)] w27 (by kernel_rfl) .nil ?_
          refine GoS.run [6] [.n] _ [.code (csub (cd Try.f5) [1,1,1])] [(6, .bool false)] w27 (by kernel_rfl) .nil ?_
          refine GoS.ret (fn := Try.f5) (v := (.bool false)) Try.func5 (by kernel_rfl) ?_
          rw [hR]
          refine ⟨ret_bool ?_, (hM89.sub (List.nil_sublist _)).below⟩
          first | rfl | exact better_trans (b := b) (by simp_all) (by simp_all) | exact (better_trans (b := b) (by simp_all) (by simp_all)).symm | (have q := better_asymm (a := a) (b := b) (by simp_all); simp_all; done) | (have q := better_tot (a := a) (b := b) (by simp_all) (by simp_all); subst q; simp_all; done) | (simp_all; done)


end Go.Proofs.Ytbammppeneoffaa
