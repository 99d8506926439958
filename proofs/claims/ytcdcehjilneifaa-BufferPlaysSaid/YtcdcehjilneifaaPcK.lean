/-
  The walk of Pieces.
-/
import Derived.Test.YtcdcehjilneifaaPcF
import Derived.Test.YtcdcehjilneifaaPcQ
import Derived.Test.YtcdcehjilneifaaDel
namespace Go.Proofs.Ytcdcehjilneifaa
open Go Go.Gw Go.UtfP Go.TokP Go.PcP Go.RowKit
set_option linter.unusedVariables false
set_option linter.unusedSimpArgs false
set_option maxRecDepth 20000

theorem sT43 : SliceT Try.prog 43 29 3 64 (.agg #[.string (sb ([])), .slice none 0 0, .slice none 0 0]) := ⟨by kernel_rfl, ⟨_, rfl, by kernel_rfl, by kernel_rfl, by kernel_rfl⟩, rfl, by decide⟩
theorem pE43 : Plain Try.prog 43 := ⟨.slice 29, by kernel_rfl, (fun _ h => by cases h), (fun _ _ h => by cases h)⟩

abbrev uG0 : List Nat := [1,0,1,0,0]
abbrev uG1 : List Nat := [1,0,1,0,0,1,1,1]
abbrev uG2 : List Nat := [1,0,1,0,0,1,1,0,0,1,1]
set_option maxHeartbeats 400000 in
theorem pred_c (x : PZ) (hx1 : One1 x.nums) (hx2 : One1 x.words) (key : List UInt8) (bk : Nat) {w : World} (hbk : Rd w 1 (obj bk) 1 [sS key]) :
  Calls Try.prog 55 #[.agg #[sS (x.pc.key), x.nums, x.words], pq bk] w (fun e w' => e = .returned (.bool (decide (x.pc.key = key))) ∧ Mem [] w w' []) := by
 obtain ⟨R, hR⟩ : ∃ R : Ending → World → Prop, R = (fun e w' => e = .returned (.bool (decide (x.pc.key = key))) ∧ Mem [] w w' []) := ⟨_, rfl⟩
 rw [← hR]
 refine GoS.enter (n := 8) Try.func55 (by kernel_rfl) rfl [(0, .agg #[sS (x.pc.key), x.nums, x.words]), (1, pq bk)] (by kernel_rfl) (by kernel_rfl) ?_
 have hM0 := Mem.start w
 obtain ⟨b1, w2, hr3, hM4⟩ := m_box (T := 29) (k := 3) (u := .agg #[sS (x.pc.key), x.nums, x.words]) rfl rfl hM0
 have hM5 : Mem [] w w2 [⟨29, 3, (obj b1), 1, [sS (x.pc.key), x.nums, x.words]⟩] := hM4
 have o6 : (Instr.box 29 (.agg #[sS (x.pc.key), x.nums, x.words])).run Try.prog w = .ok (pq b1) w2 := hr3
 have o7 : (Instr.loadAt 9 (pq b1)).run Try.prog w2 = .ok (sS (x.pc.key)) w2 := c_load pE9 (hM5.rd 0 rfl) (cel_obj b1 0) rfl
 have o8 : (Instr.loadAt 9 (pq bk)).run Try.prog w2 = .ok (sS key) w2 := c_load pE9 (hbk.kept0 hM5.kept) (cel_obj bk 0) rfl
 have o9 : (binOp .eql 9 (sS (x.pc.key)) (sS key)).run Try.prog w2 = .ok (.bool (decide (x.pc.key = key))) w2 := f_streq
 have hM10 := hM5.sub (sD sR)
 refine GoS.run [3] [.n, .n, .u (pq b1) (w2), .n, .n, .n, .n, .n, .h (sS (x.pc.key)), .h (sS key), .h (.bool (decide (x.pc.key = key))), .n, .n] _ [iC Try.f55 [1,1]] [(3, .bool (decide (x.pc.key = key)))] w2 (by kernel_rfl) (.cons o6 (.cons o7 (.cons o8 (.cons o9 .nil)))) ?_
 refine GoS.ret (fn := Try.f55) (v := (.bool (decide (x.pc.key = key)))) Try.func55 (by kernel_rfl) ?_
 rw [hR]
 exact ⟨rfl, hM10.sub sN⟩

set_option maxHeartbeats 400000 in
theorem idx_L {w0 : World} (key : List UInt8) (bk : Nat) (v : Value) (Z : List PZ) (hv : Rd w0 3 v Z.length (recs pzC Z)) (hbk : Rd w0 1 (obj bk) 1 [sS key]) (hone : OneZ Z) (R : Ending → World → Prop) (hR : R = (fun e w' => e = .returned (.int .i64 (placeI (Z.map PZ.pc) key)) ∧ Mem [] w0 w' [])) : ∀ (N : Nat) (i : Nat) (w : World) (hi : i ≤ Z.length) (hn : ∀ j, j < i → (Z.getD j pz).pc.key ≠ key) (hM : Mem [] w0 w []) (hN : Z.length - i < N), GoS Try.prog 54 R 19 [iC Try.f54 uG0, iL Try.f54 uG0, .inBlock 0, iC Try.f54 [1,1]] [(0, v), (1, .func (.func 55) #[] #[pq bk]), (7, iN (List.length Z)), (8, iN i)] w := by
 intro N
 induction N with
 | zero => intro i w hi hn hM hN; exact absurd hN (Nat.not_lt_zero _)
 | succ N ih =>
  intro i w hi hn hM hN
  have hln := rd_len hv
  simp only [maxLen] at hln
  refine GoS.run [0, 1, 7, 8, 9] [.n, .n, .n, .n, .n] _ [iC Try.f54 [1,0,1,0,0,1,0], iC Try.f54 [1,0,1,0,0,1,1], iL Try.f54 uG0, .inBlock 0, iC Try.f54 [1,1]] [(0, v), (1, .func (.func 55) #[] #[pq bk]), (7, iN (List.length Z)), (8, iN i), (9, .bool (decide (((i : Nat) : Int) < (((List.length Z) : Nat) : Int))))] w (by kernel_rfl) .nil ?_
  refine GoS.cond (decide (((i : Nat) : Int) < (((List.length Z) : Nat) : Int))) [iC Try.f54 [1,0,1,0,0,1,0,0], iC Try.f54 [1,0,1,0,0,1,1], iL Try.f54 uG0, .inBlock 0, iC Try.f54 [1,1]] [iC Try.f54 [1,0,1,0,0,1,0,1], iC Try.f54 [1,0,1,0,0,1,1], iL Try.f54 uG0, .inBlock 0, iC Try.f54 [1,1]] (by kernel_rfl) (fun h1 => ?_) (fun h1 => ?_)
  ·
   have h1p : ((i : Nat) : Int) < (((List.length Z) : Nat) : Int) := of_decide_eq_true h1
   refine GoS.run [0, 1, 7, 8] [.n] _ [iC Try.f54 [1,0,1,0,0,1,1], iL Try.f54 uG0, .inBlock 0, iC Try.f54 [1,1]] [(0, v), (1, .func (.func 55) #[] #[pq bk]), (7, iN (List.length Z)), (8, iN i)] w (by kernel_rfl) .nil ?_
   obtain ⟨p2, hp3, hq4⟩ := rd_at (i := ((i : Nat) : Int)) sT43 (hv.kept0 hM.kept) i (by omega) (by first | omega | (dsimp only; omega))
   have o5 : (Instr.indexAt 43 (v) (iN i)).run Try.prog w = .ok (.pointer (some p2)) w := hq4 _ _
   have o6 : (Instr.loadAt 29 (.pointer (some p2))).run Try.prog w = .ok (.agg #[sS ((List.getD Z i pz).pc.key), ((List.getD Z i pz).nums), ((List.getD Z i pz).words)]) w := r_loads (f := pzC) (l := Z) aE29 (hv.kept0 hM.kept) pzC_len hp3 (by first | omega | (dsimp only; omega)) pz
   refine GoS.run [0, 1, 5, 7, 8, 11, 15] [.n, .n, .n, .n, .n, .n, .n, .n, .n, .n, .n, .n, .h (.pointer (some p2)), .h (.agg #[sS ((List.getD Z i pz).pc.key), ((List.getD Z i pz).nums), ((List.getD Z i pz).words)])] _ [.inRegion (cops (csub (cd Try.f54) [1,0,1,0,0,1,1,0,0,1,0])) [5], iC Try.f54 uG2, .inBlock 1, iC Try.f54 uG1, iL Try.f54 uG0, .inBlock 0, iC Try.f54 [1,1]] [(0, v), (1, .func (.func 55) #[] #[pq bk]), (5, iN i), (7, iN (List.length Z)), (8, iN i), (11, .func (.func 55) #[] #[pq bk]), (15, .agg #[sS ((List.getD Z i pz).pc.key), ((List.getD Z i pz).nums), ((List.getD Z i pz).words)])] w (by kernel_rfl) (.cons o5 (.cons o6 .nil)) ?_
   refine GoS.call [0, 1, 5, 7, 8] 55 #[.agg #[sS ((List.getD Z i pz).pc.key), ((List.getD Z i pz).nums), ((List.getD Z i pz).words)], pq bk] (some 16) [.inRegion (cops (csub (cd Try.f54) [1,0,1,0,0,1,1,0,0,1,0])) [], iC Try.f54 uG2, .inBlock 1, iC Try.f54 uG1, iL Try.f54 uG0, .inBlock 0, iC Try.f54 [1,1]] [(0, v), (1, .func (.func 55) #[] #[pq bk]), (5, iN i), (7, iN (List.length Z)), (8, iN i)] (by kernel_rfl) (pred_c (List.getD Z i pz) (hone _ (getD_mem (i := i) (d := pz) (by omega))).1 (hone _ (getD_mem (i := i) (d := pz) (by omega))).2 key bk (hbk.kept0 hM.kept)) ?_
   rintro _ w7 ⟨rfl, m8⟩
   refine ⟨_, rfl, ?_⟩
   have hM9 : Mem [] w0 w7 [] := Mem.join (R := []) hM m8
   refine GoS.run [0, 1, 5, 7, 8, 16] [.n] _ [iC Try.f54 uG2, .inBlock 1, iC Try.f54 uG1, iL Try.f54 uG0, .inBlock 0, iC Try.f54 [1,1]] [(0, v), (1, .func (.func 55) #[] #[pq bk]), (5, iN i), (7, iN (List.length Z)), (8, iN i), (16, .bool (decide ((List.getD Z i pz).pc.key = key)))] w7 (by kernel_rfl) .nil ?_
   refine GoS.cond (decide ((List.getD Z i pz).pc.key = key)) [iC Try.f54 [1,0,1,0,0,1,1,0,0,1,1,0], .inBlock 1, iC Try.f54 uG1, iL Try.f54 uG0, .inBlock 0, iC Try.f54 [1,1]] [iC Try.f54 [1,0,1,0,0,1,1,0,0,1,1,1], .inBlock 1, iC Try.f54 uG1, iL Try.f54 uG0, .inBlock 0, iC Try.f54 [1,1]] (by kernel_rfl) (fun h10 => ?_) (fun h10 => ?_)
   ·
    have h10p : (List.getD Z i pz).pc.key = key := of_decide_eq_true h10
    refine GoS.run [4] [.n, .n, .n, .n, .n] _ [iC Try.f54 [1,0,1,0,0,1,1,0,0,1,1,0,1], .inBlock 1, iC Try.f54 uG1, iL Try.f54 uG0, .inBlock 0, iC Try.f54 [1,1]] [(4, iN i)] w7 (by kernel_rfl) .nil ?_
    refine GoS.ret (fn := Try.f54) (v := (iN i)) Try.func54 (by kernel_rfl) ?_
    rw [hR]
    exact ⟨ret_int (place_at (by omega) h10p hn).symm, hM9.sub sN⟩
   ·
    have h10p : ¬ ((List.getD Z i pz).pc.key = key) := of_decide_eq_false h10
    refine GoS.run [0, 1, 7, 8] [.n] _ [.inBlock 1, iC Try.f54 uG1, iL Try.f54 uG0, .inBlock 0, iC Try.f54 [1,1]] [(0, v), (1, .func (.func 55) #[] #[pq bk]), (7, iN (List.length Z)), (8, iN i)] w7 (by kernel_rfl) .nil ?_
    have o11 : (binOp .add 3 (iN i) (.int .i64 1)).run Try.prog w7 = .ok (iN (i + 1)) w7 := f_add (by rw [show ((i : Nat) : Int) + 1 = (((i + 1) : Nat) : Int) by omega]; exact IntWalk.i64_in _ (by omega))
    refine GoS.run [0, 1, 7, 8] [.n, .n, .h (iN (i + 1)), .n, .n, .n] _ [iC Try.f54 uG0, iL Try.f54 uG0, .inBlock 0, iC Try.f54 [1,1]] [(0, v), (1, .func (.func 55) #[] #[pq bk]), (7, iN (List.length Z)), (8, iN (i + 1))] w7 (by kernel_rfl) (.cons o11 .nil) ?_
    exact ih (i + 1) _ (by omega) (fun j hj => by rcases Nat.lt_succ_iff_lt_or_eq.1 hj with g | g; exact hn j g; subst g; exact h10p) (hM9.sub sN) (by omega)
  ·
   have h1p : ¬ (((i : Nat) : Int) < (((List.length Z) : Nat) : Int)) := of_decide_eq_false h1
   refine GoS.run [4] [.n, .n, .n, .n, .n] _ [iC Try.f54 [1,1,1]] [(4, .int .i64 (-1))] w (by kernel_rfl) .nil ?_
   refine GoS.ret (fn := Try.f54) (v := (.int .i64 (-1))) Try.func54 (by kernel_rfl) ?_
   rw [hR]
   exact ⟨ret_int (place_none (fun j hj => hn j (by omega))).symm, hM.sub sN⟩

set_option maxHeartbeats 400000 in
theorem idx_c {w : World} (key : List UInt8) (bk : Nat) (v : Value) (Z : List PZ) (hv : Rd w 3 v Z.length (recs pzC Z)) (hbk : Rd w 1 (obj bk) 1 [sS key]) (hone : OneZ Z) :
  Calls Try.prog 54 #[v, .func (.func 55) #[] #[pq bk]] w (fun e w' => e = .returned (.int .i64 (placeI (Z.map PZ.pc) key)) ∧ Mem [] w w' []) := by
 have hln := rd_len hv
 simp only [maxLen] at hln
 obtain ⟨R, hR⟩ : ∃ R : Ending → World → Prop, R = (fun e w' => e = .returned (.int .i64 (placeI (Z.map PZ.pc) key)) ∧ Mem [] w w' []) := ⟨_, rfl⟩
 rw [← hR]
 refine GoS.enter (n := 19) Try.func54 (by kernel_rfl) rfl [(0, v), (1, .func (.func 55) #[] #[pq bk])] (by kernel_rfl) (by kernel_rfl) ?_
 have hM0 := Mem.start w
 have o1 : (Builtin.len_ #[43] 3 #[v]).run Try.prog w = .ok (iN (List.length Z)) w := f_slen sT43 (hv.kept0 hM0.kept) 3 _
 refine GoS.run [0, 1, 7, 8] [.n, .n, .n, .n, .n, .n, .n, .n, .h (iN (List.length Z)), .n, .n, .n, .n] _ [iC Try.f54 uG0, iL Try.f54 uG0, .inBlock 0, iC Try.f54 [1,1]] [(0, v), (1, .func (.func 55) #[] #[pq bk]), (7, iN (List.length Z)), (8, .int .i64 0)] w (by kernel_rfl) (.cons o1 .nil) ?_
 exact idx_L key bk v Z hv hbk hone R hR (Z.length + 1) 0 w (Nat.zero_le _) (fun j hj => absurd hj (Nat.not_lt_zero _)) (hM0.sub sN) (by omega)

set_option maxHeartbeats 400000 in
theorem place_c (b : Nat) (key : List UInt8) (v : Value) (Z : List PZ) {w : World} (hb : Rd w 1 (obj b) 1 [v]) (hv : Rd w 3 v Z.length (recs pzC Z)) (hone : OneZ Z) :
  Calls Try.prog 39 #[pq b, sS key] w (fun e w' => e = .returned (.int .i64 (placeI (Z.map PZ.pc) key)) ∧ Mem [] w w' []) := by
 obtain ⟨R, hR⟩ : ∃ R : Ending → World → Prop, R = (fun e w' => e = .returned (.int .i64 (placeI (Z.map PZ.pc) key)) ∧ Mem [] w w' []) := ⟨_, rfl⟩
 rw [← hR]
 refine GoS.enter (n := 13) Try.func39 (by kernel_rfl) rfl [(0, pq b), (1, sS key)] (by kernel_rfl) (by kernel_rfl) ?_
 have hM0 := Mem.start w
 obtain ⟨b1, w2, hr3, hM4⟩ := m_box (T := 9) (k := 1) (u := sS key) rfl rfl hM0
 have hM5 : Mem [] w w2 [⟨9, 1, (obj b1), 1, [sS key]⟩] := hM4
 have o6 : (Instr.box 9 (sS key)).run Try.prog w = .ok (pq b1) w2 := hr3
 have o7 : (Instr.loadAt 43 (pq b)).run Try.prog w2 = .ok (v) w2 := c_load pE43 (hb.kept0 hM5.kept) (cel_obj b 0) rfl
 refine GoS.run [10, 11] [.n, .n, .u (pq b1) (w2), .n, .n, .n, .n, .n, .n, .n, .n, .n, .n, .n, .n, .n, .n, .n, .h (v), .n] _ [.inRegion (cops (csub (cd Try.f39) [1,1,0])) [5,6], iC Try.f39 [1,1,1]] [(10, v), (11, .func (.func 55) #[] #[pq b1])] w2 (by kernel_rfl) (.cons o6 (.cons o7 .nil)) ?_
 refine GoS.call [] 54 #[v, .func (.func 55) #[] #[pq b1]] (some 12) [.inRegion (cops (csub (cd Try.f39) [1,1,0])) [6], iC Try.f39 [1,1,1]] [] (by kernel_rfl) (idx_c key b1 v Z (hv.kept0 hM5.kept) (hM5.rd 0 rfl) hone) ?_
 rintro _ w8 ⟨rfl, m9⟩
 refine ⟨_, rfl, ?_⟩
 have hM10 : Mem [] w w8 [⟨9, 1, (obj b1), 1, [sS key]⟩] := Mem.join (R := []) hM5 m9
 have hM11 := hM10.sub (sD sR)
 refine GoS.run [4] [.n, .n] _ [iC Try.f39 [1,1,1]] [(4, .int .i64 (placeI (List.map PZ.pc Z) key))] w8 (by kernel_rfl) .nil ?_
 refine GoS.ret (fn := Try.f39) (v := (.int .i64 (placeI (List.map PZ.pc Z) key))) Try.func39 (by kernel_rfl) ?_
 rw [hR]
 exact ⟨rfl, hM11.sub sN⟩

set_option maxHeartbeats 400000 in
theorem has_c (b : Nat) (key : List UInt8) (v : Value) (Z : List PZ) {w : World} (hb : Rd w 1 (obj b) 1 [v]) (hv : Rd w 3 v Z.length (recs pzC Z)) (hone : OneZ Z) :
  Calls Try.prog 24 #[pq b, sS key] w (fun e w' => e = .returned (.bool (hasK (Z.map PZ.pc) key)) ∧ Mem [] w w' []) := by
 obtain ⟨R, hR⟩ : ∃ R : Ending → World → Prop, R = (fun e w' => e = .returned (.bool (hasK (Z.map PZ.pc) key)) ∧ Mem [] w w' []) := ⟨_, rfl⟩
 rw [← hR]
 refine GoS.enter (n := 9) Try.func24 (by kernel_rfl) rfl [(0, pq b), (1, sS key)] (by kernel_rfl) (by kernel_rfl) ?_
 have hM0 := Mem.start w
 refine GoS.run [5, 6] [.n, .n, .n, .n, .n, .n, .n, .n] _ [.inRegion (cops (csub (cd Try.f24) [1,0])) [2,3,4], iC Try.f24 [1,1]] [(5, pq b), (6, sS key)] w (by kernel_rfl) .nil ?_
 refine GoS.call [] 39 #[pq b, sS key] (some 7) [.inRegion (cops (csub (cd Try.f24) [1,0])) [3,4], iC Try.f24 [1,1]] [] (by kernel_rfl) (place_c b key v Z (hb.kept0 hM0.kept) (hv.kept0 hM0.kept) hone) ?_
 rintro _ w1 ⟨rfl, m2⟩
 refine ⟨_, rfl, ?_⟩
 have hM3 : Mem [] w w1 [] := Mem.join (R := []) hM0 m2
 refine GoS.run [4] [.n, .n, .n] _ [iC Try.f24 [1,1]] [(4, .bool (decide ((placeI (List.map PZ.pc Z) key) ≥ 0)))] w1 (by kernel_rfl) .nil ?_
 refine GoS.ret (fn := Try.f24) (v := (.bool (decide ((placeI (List.map PZ.pc Z) key) ≥ 0)))) Try.func24 (by kernel_rfl) ?_
 rw [hR]
 exact ⟨ret_bool (by rw [has_place, ← decide_not]; exact decide_eq_decide.2 (by omega)), hM3.sub sN⟩

set_option maxHeartbeats 400000 in
theorem len_c (b : Nat) (key : List UInt8) (v : Value) (Z : List PZ) {w : World} (hb : Rd w 1 (obj b) 1 [v]) (hv : Rd w 3 v Z.length (recs pzC Z)) (hone : OneZ Z) :
  Calls Try.prog 23 #[pq b] w (fun e w' => e = .returned (iN Z.length) ∧ Mem [] w w' []) := by
 obtain ⟨R, hR⟩ : ∃ R : Ending → World → Prop, R = (fun e w' => e = .returned (iN Z.length) ∧ Mem [] w w' []) := ⟨_, rfl⟩
 rw [← hR]
 refine GoS.enter (n := 10) Try.func23 (by kernel_rfl) rfl [(0, pq b)] (by kernel_rfl) (by kernel_rfl) ?_
 have hM0 := Mem.start w
 have o1 : (Instr.loadAt 43 (pq b)).run Try.prog w = .ok (v) w := c_load pE43 (hb.kept0 hM0.kept) (cel_obj b 0) rfl
 have o2 : (Builtin.len_ #[43] 3 #[v]).run Try.prog w = .ok (iN (List.length Z)) w := f_slen sT43 (hv.kept0 hM0.kept) 3 _
 refine GoS.run [2] [.n, .n, .n, .n, .n, .n, .n, .n, .n, .n, .n, .n, .n, .n, .n, .n, .n, .h (v), .h (iN (List.length Z)), .n, .n] _ [iC Try.f23 [1,1,1]] [(2, iN (List.length Z))] w (by kernel_rfl) (.cons o1 (.cons o2 .nil)) ?_
 refine GoS.ret (fn := Try.f23) (v := (iN (List.length Z))) Try.func23 (by kernel_rfl) ?_
 rw [hR]
 exact ⟨rfl, hM0.sub sN⟩

set_option maxHeartbeats 400000 in
theorem place0_c (key : List UInt8) {w : World} :
  Calls Try.prog 39 #[.pointer none, sS key] w (fun e w' => e = .returned (.int .i64 (-1)) ∧ Mem [] w w' []) := by
 obtain ⟨R, hR⟩ : ∃ R : Ending → World → Prop, R = (fun e w' => e = .returned (.int .i64 (-1)) ∧ Mem [] w w' []) := ⟨_, rfl⟩
 rw [← hR]
 refine GoS.enter (n := 13) Try.func39 (by kernel_rfl) rfl [(0, .pointer none), (1, sS key)] (by kernel_rfl) (by kernel_rfl) ?_
 have hM0 := Mem.start w
 obtain ⟨b1, w2, hr3, hM4⟩ := m_box (T := 9) (k := 1) (u := sS key) rfl rfl hM0
 have hM5 : Mem [] w w2 [⟨9, 1, (obj b1), 1, [sS key]⟩] := hM4
 have o6 : (Instr.box 9 (sS key)).run Try.prog w = .ok (pq b1) w2 := hr3
 have hM7 := hM5.sub (sD sR)
 refine GoS.run [4] [.n, .n, .u (pq b1) (w2), .n, .n, .n, .n, .n, .n, .n, .n, .n, .n, .n, .n, .n] _ [iC Try.f39 [1,0,1,0,1], iC Try.f39 [1,1]] [(4, .int .i64 (-1))] w2 (by kernel_rfl) (.cons o6 .nil) ?_
 refine GoS.ret (fn := Try.f39) (v := (.int .i64 (-1))) Try.func39 (by kernel_rfl) ?_
 rw [hR]
 exact ⟨rfl, hM7.sub sN⟩

set_option maxHeartbeats 400000 in
theorem has0_c (key : List UInt8) {w : World} :
  Calls Try.prog 24 #[.pointer none, sS key] w (fun e w' => e = .returned (.bool false) ∧ Mem [] w w' []) := by
 obtain ⟨R, hR⟩ : ∃ R : Ending → World → Prop, R = (fun e w' => e = .returned (.bool false) ∧ Mem [] w w' []) := ⟨_, rfl⟩
 rw [← hR]
 refine GoS.enter (n := 9) Try.func24 (by kernel_rfl) rfl [(0, .pointer none), (1, sS key)] (by kernel_rfl) (by kernel_rfl) ?_
 have hM0 := Mem.start w
 refine GoS.run [5, 6] [.n, .n, .n, .n, .n, .n, .n, .n] _ [.inRegion (cops (csub (cd Try.f24) [1,0])) [2,3,4], iC Try.f24 [1,1]] [(5, .pointer none), (6, sS key)] w (by kernel_rfl) .nil ?_
 refine GoS.call [] 39 #[.pointer none, sS key] (some 7) [.inRegion (cops (csub (cd Try.f24) [1,0])) [3,4], iC Try.f24 [1,1]] [] (by kernel_rfl) (place0_c key (w := w)) ?_
 rintro _ w1 ⟨rfl, m2⟩
 refine ⟨_, rfl, ?_⟩
 have hM3 : Mem [] w w1 [] := Mem.join (R := []) hM0 m2
 refine GoS.run [4] [.n, .n, .n] _ [iC Try.f24 [1,1]] [(4, .bool false)] w1 (by kernel_rfl) .nil ?_
 refine GoS.ret (fn := Try.f24) (v := (.bool false)) Try.func24 (by kernel_rfl) ?_
 rw [hR]
 exact ⟨rfl, hM3.sub sN⟩

set_option maxHeartbeats 400000 in
theorem len0_c {w : World} :
  Calls Try.prog 23 #[.pointer none] w (fun e w' => e = .returned (.int .i64 0) ∧ Mem [] w w' []) := by
 obtain ⟨R, hR⟩ : ∃ R : Ending → World → Prop, R = (fun e w' => e = .returned (.int .i64 0) ∧ Mem [] w w' []) := ⟨_, rfl⟩
 rw [← hR]
 refine GoS.enter (n := 10) Try.func23 (by kernel_rfl) rfl [(0, .pointer none)] (by kernel_rfl) (by kernel_rfl) ?_
 have hM0 := Mem.start w
 refine GoS.run [2] [.n, .n, .n, .n, .n, .n, .n, .n, .n, .n, .n, .n, .n, .n, .n] _ [iC Try.f23 [1,0,1,0,1], iC Try.f23 [1,1]] [(2, .int .i64 0)] w (by kernel_rfl) .nil ?_
 refine GoS.ret (fn := Try.f23) (v := (.int .i64 0)) Try.func23 (by kernel_rfl) ?_
 rw [hR]
 exact ⟨rfl, hM0.sub sN⟩




set_option maxHeartbeats 400000 in
theorem del_c {S : List Nat} {w0 w : World} (g c i : Nat) (Z : List PZ) (T : List Row) (hi : i < Z.length) (hone : ∀ u ∈ recs pzC Z, u.oneCell' = true) (hM : Mem S w0 w (⟨29, 3, (.slice (some ⟨g, 0, none⟩) (List.length Z) c), (List.length Z), (recs pzC Z)⟩ :: T)) :
  Calls Try.prog 40 #[(.slice (some ⟨g, 0, none⟩) (List.length Z) c), iN i, iN (i + 1)] w (fun e w' => e = .returned (.slice (some ⟨g, 0, none⟩) (List.length (Z.eraseIdx i)) c) ∧ Mem S w0 w' (⟨29, 3, (.slice (some ⟨g, 0, none⟩) (List.length (Z.eraseIdx i)) c), List.length (Z.eraseIdx i), recs pzC (Z.eraseIdx i)⟩ :: T)) := by
 have hrd : Rd w 3 (.slice (some ⟨g, 0, none⟩) (List.length Z) c) (List.length Z) (recs pzC Z) := hM.rd 0 rfl
 have hnc : Z.length ≤ c := by rcases (hM.get 0 rfl).2 with ⟨e, _⟩ | ⟨g', cap, cur, e, _, _, hn, _⟩; cases e; cases e; exact hn
 have hcm := rd_len hrd
 simp only [maxLen] at hcm
 have hcx : c ≤ maxLen := by rcases (hM.get 0 rfl).2 with ⟨e, _⟩ | ⟨g', cap, cur, e, _, _, _, hn, _⟩; cases e; cases e; exact hn
 simp only [maxLen] at hcx
 obtain ⟨R, hR⟩ : ∃ R : Ending → World → Prop, R = (fun e w' => e = .returned (.slice (some ⟨g, 0, none⟩) (List.length (Z.eraseIdx i)) c) ∧ Mem S w0 w' (⟨29, 3, (.slice (some ⟨g, 0, none⟩) (List.length (Z.eraseIdx i)) c), List.length (Z.eraseIdx i), recs pzC (Z.eraseIdx i)⟩ :: T)) := ⟨_, rfl⟩
 rw [← hR]
 refine GoS.enter (n := 33) Try.func40 (by kernel_rfl) rfl [(0, (.slice (some ⟨g, 0, none⟩) (List.length Z) c)), (1, iN i), (2, iN (i + 1))] (by kernel_rfl) (by kernel_rfl) ?_
 have o1 : (Builtin.len_ #[43] 3 #[(.slice (some ⟨g, 0, none⟩) (List.length Z) c)]).run Try.prog w = .ok (iN (List.length Z)) w := f_slen sT43 (hM.rd 0 rfl) 3 _
 have o2 : (Instr.sliceAt 43 ((.slice (some ⟨g, 0, none⟩) (List.length Z) c)) (some (iN i)) (some (iN (i + 1))) (some (iN (List.length Z)))).run Try.prog w = .ok (.slice (if (List.length Z) = i then some ⟨g, 0, none⟩ else some ((⟨g, 0, none⟩ : Addr).add (i * 3))) (i + 1 - i) ((List.length Z) - i)) w := f_three sT43 g i (i + 1) rfl rfl (Nat.le_succ _) (by omega) (by omega) _
 refine GoS.run [0, 1, 2, 16] [.n, .n, .n, .n, .n, .n, .n, .n, .n, .n, .h (iN (List.length Z)), .h ((.slice (if (List.length Z) = i then some ⟨g, 0, none⟩ else some ((⟨g, 0, none⟩ : Addr).add (i * 3))) (i + 1 - i) ((List.length Z) - i))), .n, .n, .n, .n, .n, .n, .n, .n] _ [iC Try.f40 [1,1,0,1], iC Try.f40 [1,1,1]] [(0, (.slice (some ⟨g, 0, none⟩) (List.length Z) c)), (1, iN i), (2, iN (i + 1)), (16, .bool (((i : Nat) : Int) == (((i + 1) : Nat) : Int)))] w (by kernel_rfl) (.cons o1 (.cons o2 .nil)) ?_
 refine GoS.cond (((i : Nat) : Int) == (((i + 1) : Nat) : Int)) [iC Try.f40 [1,1,0,1,0], iC Try.f40 [1,1,1]] [iC Try.f40 [1,1,0,1,1], iC Try.f40 [1,1,1]] (by kernel_rfl) (fun h3 => ?_) (fun h3 => ?_)
 ·
  have hz := h3; simp at hz; omega
 ·
  have h3p : ¬ (((i : Nat) : Int) = (((i + 1) : Nat) : Int)) := p_ne h3
  refine GoS.run [0, 1, 2] [.n] _ [iC Try.f40 [1,1,1]] [(0, (.slice (some ⟨g, 0, none⟩) (List.length Z) c)), (1, iN i), (2, iN (i + 1))] w (by kernel_rfl) .nil ?_
  have o4 : (Builtin.len_ #[43] 3 #[(.slice (some ⟨g, 0, none⟩) (List.length Z) c)]).run Try.prog w = .ok (iN (List.length Z)) w := f_slen sT43 (hM.rd 0 rfl) 3 _
  refine GoS.run [0, 1, 2, 7] [.n, .n, .n, .h (iN (List.length Z)), .n, .n, .n] _ [iC Try.f40 [1,1,1,1,0], iC Try.f40 [1,1,1,1,1]] [(0, (.slice (some ⟨g, 0, none⟩) (List.length Z) c)), (1, iN i), (2, iN (i + 1)), (7, iN (List.length Z))] w (by kernel_rfl) (.cons o4 .nil) ?_
  obtain ⟨w5, hw6⟩ : ∃ w_, (w).drewN 1 = w_ := ⟨_, rfl⟩
  refine GoS.held (fun W_ => Mem S w0 W_ (T)) [] 5 (by kernel_rfl) (by kernel_rfl) 8 (by kernel_rfl) ?_
  rw [hw6]
  have hM7 : Mem S w0 w5 (⟨29, 3, (.slice (some ⟨g, 0, none⟩) (List.length Z) c), (List.length Z), (recs pzC Z)⟩ :: T) := hw6 ▸ hM.ext (Kept.drewN _ _ 1)
  have hS8 := hM7.sub (sD sR)
  refine GoH.takeV 0 ((.slice (some ⟨g, 0, none⟩) (List.length Z) c)) ((.slice (some ⟨g, 0, none⟩) (List.length Z) c)) (some 20) (fun W_ => by kernel_rfl) rfl hS8 ?_
  refine GoH.takeV 1 (iN i) (iN i) (some 21) (fun W_ => by kernel_rfl) rfl hS8 ?_
  refine GoH.takeF 2 ((.slice (some ⟨g, 0, none⟩) i c)) (fun W_ => (Instr.sliceAt 43 ((.slice (some ⟨g, 0, none⟩) (List.length Z) c)) none (some (iN i)) none).run Try.prog W_ = .ok (.slice (some ⟨g, 0, none⟩) i c) W_) (some 22) (fun W_ => by kernel_rfl) (fun W_ hW_ => f_cut0 sT43 hrd i rfl (by omega) _ _) hS8 ?_
  refine GoH.takeV 3 ((.slice (some ⟨g, 0, none⟩) (List.length Z) c)) ((.slice (some ⟨g, 0, none⟩) (List.length Z) c)) (some 23) (fun W_ => by kernel_rfl) rfl hS8 ?_
  refine GoH.takeV 4 (iN (i + 1)) (iN (i + 1)) (some 24) (fun W_ => by kernel_rfl) rfl hS8 ?_
  have hx12 : Rd w5 3 (.slice (some ⟨g, 0, none⟩) (List.length Z) c) (List.length Z) (recs pzC Z) := hM7.rd 0 rfl
  obtain ⟨v9, hr10, hv11, _⟩ := f_from sT43 hx12 (i + 1) (x := (((i + 1) : Nat) : Int)) rfl (by omega)
  have hS13 := hM7.sub (sD sR)
  refine GoH.stepF 5 (v9) (w5) ((Instr.sliceAt 43 ((.slice (some ⟨g, 0, none⟩) (List.length Z) c)) (some (iN (i + 1))) none none).run Try.prog w5 = .ok v9 w5) (some 25) (by kernel_rfl) (hr10 _ _) (.inr hS13) ?_
  obtain ⟨w14, hr15, hM16⟩ := m_appin (n := (List.length Z)) (m := (List.length Z - (i + 1))) sT43 hM7 0 rfl i hv11 (fun u hu => hone u (List.mem_of_mem_drop hu)) (by omega) 43
  have hS17 := hM16.sub (sD sR)
  refine GoH.stepF 6 ((.slice (some ⟨g, 0, none⟩) (i + ((List.length Z) - (i + 1))) c)) (w14) ((Builtin.append_ #[43, 43] 43 #[(.slice (some ⟨g, 0, none⟩) i c), v9]).run Try.prog w5 = .ok (.slice (some ⟨g, 0, none⟩) (i + ((List.length Z) - (i + 1))) c) w14) (some 26) (by kernel_rfl) (hr15) (.inr hS17) ?_
  refine GoH.takeV 7 ((.slice (some ⟨g, 0, none⟩) (i + ((List.length Z) - (i + 1))) c)) ((.slice (some ⟨g, 0, none⟩) (i + ((List.length Z) - (i + 1))) c)) (some 0) (fun W_ => by kernel_rfl) rfl hS17 ?_
  refine GoH.done [0, 7] [(0, (.slice (some ⟨g, 0, none⟩) (i + ((List.length Z) - (i + 1))) c)), (7, iN (List.length Z))] (by kernel_rfl) (by kernel_rfl) ?_
  have o21 : (Builtin.len_ #[43] 3 #[(.slice (some ⟨g, 0, none⟩) (i + ((List.length Z) - (i + 1))) c)]).run Try.prog w14 = .ok (iN (i + ((List.length Z) - (i + 1)))) w14 := f_slen sT43 (hM16.rd 0 rfl) 3 _
  have o22 : (Instr.sliceAt 43 ((.slice (some ⟨g, 0, none⟩) (i + ((List.length Z) - (i + 1))) c)) (some (iN (i + ((List.length Z) - (i + 1))))) (some (iN (List.length Z))) none).run Try.prog w14 = .ok (.slice (some ⟨g, (i + ((List.length Z) - (i + 1))) * 3, none⟩) ((List.length Z) - (i + ((List.length Z) - (i + 1)))) (c - (i + ((List.length Z) - (i + 1))))) w14 := f_behind sT43 g (i + ((List.length Z) - (i + 1))) (List.length Z) rfl rfl (by omega) hnc _
  obtain ⟨w18, hr19, hM20⟩ := m_clear (m := (i + ((List.length Z) - (i + 1)))) sT43 (by intro u hu; simp [Value.cells] at hu; rcases hu with rfl | rfl | rfl <;> rfl) hM16 0 rfl ((List.length Z) - (i + ((List.length Z) - (i + 1)))) (c - (i + ((List.length Z) - (i + 1)))) (by omega) (by omega) 0
  refine GoS.run [6] [.n, .n, .n, .n, .h (iN (i + ((List.length Z) - (i + 1)))), .n, .h ((.slice (some ⟨g, (i + ((List.length Z) - (i + 1))) * 3, none⟩) ((List.length Z) - (i + ((List.length Z) - (i + 1)))) (c - (i + ((List.length Z) - (i + 1)))))), .u (.tuple #[]) (w18), .n, .n, .n, .n, .n, .n] _ [iC Try.f40 [1,1,1,1,1,1,1]] [(6, (.slice (some ⟨g, 0, none⟩) (i + ((List.length Z) - (i + 1))) c))] w18 (by kernel_rfl) (.cons o21 (.cons o22 (.cons hr19 .nil))) ?_
  refine GoS.ret (fn := Try.f40) (v := (.slice (some ⟨g, 0, none⟩) (i + ((List.length Z) - (i + 1))) c)) Try.func40 (by kernel_rfl) ?_
  rw [hR]
  have el : List.length (Z.eraseIdx i) = i + (List.length Z - (i + 1)) := by rw [List.length_eraseIdx_of_lt hi]; omega
  have ee : (recs pzC Z).take (i * 3) ++ (recs pzC Z).drop ((i + 1) * 3) = recs pzC (Z.eraseIdx i) := recs_erase pzC_len Z i
  rw [el, ← ee]
  exact ⟨rfl, hM20⟩

theorem del2_c {S : List Nat} {w0 w : World} (v : Value) (i : Nat) (x y : Int) (hx : x = (i : Int)) (hy : y = ((i + 1 : Nat) : Int)) (Z : List PZ) (T : List Row) (hi : i < Z.length) (hone : ∀ u ∈ recs pzC Z, u.oneCell' = true) (hM : Mem S w0 w (⟨29, 3, v, (List.length Z), (recs pzC Z)⟩ :: T)) :
  Calls Try.prog 40 #[v, .int .i64 x, .int .i64 y] w (fun e w' => ∃ v', e = .returned v' ∧ Mem S w0 w' (⟨29, 3, v', (List.length (Z.eraseIdx i)), (recs pzC (Z.eraseIdx i))⟩ :: T)) := by
 subst hx; subst hy
 rcases (hM.get 0 rfl).2 with ⟨e, e2⟩ | ⟨g', cap, cur, e, _⟩
 ·
  simp only at e2; omega
 ·
  simp only at e; subst e
  exact (del_c g' cap i Z T hi hone hM).mono fun e w' h => ⟨_, h⟩

set_option maxHeartbeats 400000 in
theorem drop_c {S : List Nat} {w0 w : World} (b : Nat) (key : List UInt8) (v : Value) (Z : List PZ) (T : List Row) (hone : OneZ Z) (hM : Mem S w0 w (⟨82, 1, (obj b), 1, [v]⟩ :: ⟨29, 3, v, (List.length Z), (recs pzC Z)⟩ :: T)) :
  Calls Try.prog 15 #[pq b, sS key] w (fun e w' => ∃ v', e = .returned (.bool (hasK (List.map PZ.pc Z) key)) ∧ Mem S w0 w' (⟨82, 1, (obj b), 1, [v']⟩ :: ⟨29, 3, v', (List.length (dropZ key Z)), (recs pzC (dropZ key Z))⟩ :: T)) := by
 have hln := rd_len (hM.rd 1 rfl)
 simp only [maxLen] at hln
 obtain ⟨R, hR⟩ : ∃ R : Ending → World → Prop, R = (fun e w' => ∃ v', e = .returned (.bool (hasK (List.map PZ.pc Z) key)) ∧ Mem S w0 w' (⟨82, 1, (obj b), 1, [v']⟩ :: ⟨29, 3, v', (List.length (dropZ key Z)), (recs pzC (dropZ key Z))⟩ :: T)) := ⟨_, rfl⟩
 rw [← hR]
 refine GoS.enter (n := 22) Try.func15 (by kernel_rfl) rfl [(0, pq b), (1, sS key)] (by kernel_rfl) (by kernel_rfl) ?_
 refine GoS.run [0, 6, 7] [.n, .n, .n, .n, .n, .n, .n, .n] _ [.inRegion (cops (csub (cd Try.f15) [1,0])) [2,3], iC Try.f15 [1,1]] [(0, pq b), (6, pq b), (7, sS key)] w (by kernel_rfl) .nil ?_
 refine GoS.call [0] 39 #[pq b, sS key] (some 8) [.inRegion (cops (csub (cd Try.f15) [1,0])) [3], iC Try.f15 [1,1]] [(0, pq b)] (by kernel_rfl) (place_c b key v Z (hM.rd 0 rfl) (hM.rd 1 rfl) hone) ?_
 rintro _ w1 ⟨rfl, m2⟩
 refine ⟨_, rfl, ?_⟩
 have hM3 : Mem S w0 w1 (⟨82, 1, (obj b), 1, [v]⟩ :: ⟨29, 3, v, (List.length Z), (recs pzC Z)⟩ :: T) := Mem.join (R := []) hM m2
 refine GoS.run [0, 5, 10] [.n, .n, .n, .n, .n, .n, .n, .n] _ [iC Try.f15 [1,1,0,1], iC Try.f15 [1,1,1]] [(0, pq b), (5, .int .i64 (placeI (List.map PZ.pc Z) key)), (10, .bool (decide ((placeI (List.map PZ.pc Z) key) < 0)))] w1 (by kernel_rfl) .nil ?_
 refine GoS.cond (decide ((placeI (List.map PZ.pc Z) key) < 0)) [iC Try.f15 [1,1,0,1,0], iC Try.f15 [1,1,1]] [iC Try.f15 [1,1,0,1,1], iC Try.f15 [1,1,1]] (by kernel_rfl) (fun h4 => ?_) (fun h4 => ?_)
 ·
  have h4p : (placeI (List.map PZ.pc Z) key) < 0 := of_decide_eq_true h4
  have hkl : ¬ keyAt (List.map PZ.pc Z) key < (List.map PZ.pc Z).length := by
   unfold placeI at h4p; split at h4p <;> omega
  refine GoS.run [4] [.n, .n, .n, .n] _ [iC Try.f15 [1,1,0,1,0,1], iC Try.f15 [1,1,1]] [(4, .bool false)] w1 (by kernel_rfl) .nil ?_
  refine GoS.ret (fn := Try.f15) (v := (.bool false)) Try.func15 (by kernel_rfl) ?_
  rw [hR]
  refine ⟨v, ret_bool (by unfold hasK; rw [decide_eq_false hkl]), ?_⟩
  rw [dropZ_no hkl]
  exact hM3
 ·
  have h4p : ¬ ((placeI (List.map PZ.pc Z) key) < 0) := of_decide_eq_false h4
  have hkl : keyAt (List.map PZ.pc Z) key < (List.map PZ.pc Z).length := by
   unfold placeI at h4p; split at h4p <;> omega
  have hpk : placeI (List.map PZ.pc Z) key = ((keyAt (List.map PZ.pc Z) key : Nat) : Int) := if_pos hkl
  have hkz : keyAt (List.map PZ.pc Z) key < Z.length := by simpa using hkl
  refine GoS.run [0, 5] [.n] _ [iC Try.f15 [1,1,1]] [(0, pq b), (5, .int .i64 (placeI (List.map PZ.pc Z) key))] w1 (by kernel_rfl) .nil ?_
  have o5 : (Instr.loadAt 43 (pq b)).run Try.prog w1 = .ok (v) w1 := c_load pE43 (hM3.rd 0 rfl) (cel_obj b 0) rfl
  have o6 : (binOp .add 3 (.int .i64 (placeI (List.map PZ.pc Z) key)) (.int .i64 1)).run Try.prog w1 = .ok (.int .i64 ((placeI (List.map PZ.pc Z) key) + 1)) w1 := f_add (IntWalk.i64_in _ (by omega))
  refine GoS.run [11, 15, 16, 18] [.n, .n, .n, .n, .n, .n, .h (v), .n, .n, .h (.int .i64 ((placeI (List.map PZ.pc Z) key) + 1))] _ [.inRegion (cops (csub (cd Try.f15) [1,1,1,0])) [8,9,10,11], iC Try.f15 [1,1,1,1]] [(11, pq b), (15, v), (16, .int .i64 (placeI (List.map PZ.pc Z) key)), (18, .int .i64 ((placeI (List.map PZ.pc Z) key) + 1))] w1 (by kernel_rfl) (.cons o5 (.cons o6 .nil)) ?_
  have hM7 : Mem S w0 w1 (⟨29, 3, v, (List.length Z), (recs pzC Z)⟩ :: ⟨82, 1, (obj b), 1, [v]⟩ :: T) := hM3.perm (pS pR)
  refine GoS.call [11] 40 #[v, .int .i64 (placeI (List.map PZ.pc Z) key), .int .i64 ((placeI (List.map PZ.pc Z) key) + 1)] (some 19) [.inRegion (cops (csub (cd Try.f15) [1,1,1,0])) [9,10,11], iC Try.f15 [1,1,1,1]] [(11, pq b)] (by kernel_rfl) (del2_c v (keyAt (List.map PZ.pc Z) key) _ _ hpk (by rw [hpk]; rfl) Z (⟨82, 1, (obj b), 1, [v]⟩ :: T) (by simpa using hkl) hone.cells hM7) ?_
  rintro _ w8 ⟨v9, rfl, hM10⟩
  refine ⟨_, rfl, ?_⟩
  obtain ⟨w11, hr12, hM13⟩ := c_store (u := v9) (by kernel_rfl) hM10 1 rfl (cel_obj b 0) (by decide) (rd_one (hM10.rd 0 rfl)) (rd_cells (hM10.rd 0 rfl))
  have hM14 : Mem S w0 w11 (⟨29, 3, v9, (List.length (List.eraseIdx Z (keyAt (List.map PZ.pc Z) key))), (recs pzC (List.eraseIdx Z (keyAt (List.map PZ.pc Z) key)))⟩ :: ⟨82, 1, (obj b), 1, [v9]⟩ :: T) := hM13
  have o15 : (Instr.storeAt 43 (pq b) (v9)).run Try.prog w8 = .ok () w11 ∧ undef = undef := ⟨hr12, rfl⟩
  refine GoS.run [4] [.n, .n, .u (undef) (w11), .n, .n, .n, .n, .n] _ [iC Try.f15 [1,1,1,1,1]] [(4, .bool true)] w11 (by kernel_rfl) (.cons o15 .nil) ?_
  refine GoS.ret (fn := Try.f15) (v := (.bool true)) Try.func15 (by kernel_rfl) ?_
  rw [hR]
  have hM16 : Mem S w0 w11 (⟨82, 1, (obj b), 1, [v9]⟩ :: ⟨29, 3, v9, (List.length (List.eraseIdx Z (keyAt (List.map PZ.pc Z) key))), (recs pzC (List.eraseIdx Z (keyAt (List.map PZ.pc Z) key)))⟩ :: T) := hM14.perm (pS pR)
  exact ⟨_, ret_bool (by unfold hasK; rw [decide_eq_true hkl]), hM16⟩



abbrev uI0 : List Nat := [1,1,0,1,0,0]
abbrev uI1 : List Nat := [1,1,0,1,0,0,1,1]
set_option maxHeartbeats 1000000 in
theorem copied_L {w0 : World} (p : Pc) (nv wv : Value) (hs : SmallP p) (hn : Rd w0 2 nv p.nums.length (recs nmC p.nums)) (Z : List WZ) (hZ : p.words = Z.map WZ.wd) (hz : Rd w0 2 wv Z.length (recs wzC Z)) (ht : ∀ z ∈ Z, Rd w0 2 z.toks z.wd.toks.length (recs tokc z.wd.toks)) (vN : Value) (br bq : Nat) (R : Ending → World → Prop) (hR : R = (fun e w' => ∃ (nv' wv' : Value) (T : List Row), e = .returned (.agg #[sS p.key, nv', wv']) ∧ OwP 60 68 79 T p nv' wv' ∧ Mem [] w0 w' T)) : ∀ (N : Nat) (vW : Value) (Y : List WZ) (T : List Row) (i : Nat) (w : World) (hi : i ≤ Z.length) (hY : Y.map WZ.wd = (Z.take i).map WZ.wd) (hT : ∀ z ∈ Y, (⟨79, 2, z.toks, z.wd.toks.length, recs tokc z.wd.toks⟩ : Row) ∈ T) (hM : Mem [] w0 w (⟨68, 2, vW, (List.length Y), (recs wzC Y)⟩ :: ⟨60, 2, vN, (List.length (p.nums)), (recs nmC (p.nums))⟩ :: ⟨29, 3, (obj br), 1, [sS ([]), .slice none 0 0, .slice none 0 0]⟩ :: ⟨29, 3, (obj bq), 1, [sS (p.key), vN, vW]⟩ :: T)) (hN : Z.length - i < N), GoS Try.prog 41 R 34 [iC Try.f41 uI0, iL Try.f41 uI0, .inBlock 0, iC Try.f41 [1,1,1]] [(2, pq br), (3, pq bq), (14, wv), (15, iN (List.length Z)), (16, iN i)] w := by
 intro N
 induction N with
 | zero => intro vW Y T i w hi hY hT hM hN; exact absurd hN (Nat.not_lt_zero _)
 | succ N ih =>
  intro vW Y T i w hi hY hT hM hN
  have hs1 := hs.nums
  have hs2 := hs.words
  rw [hZ, List.length_map] at hs2
  have hYl : Y.length = i := by have z := congrArg List.length hY; simp only [List.length_map, List.length_take] at z; omega
  refine GoS.run [2, 3, 14, 15, 16, 17] [.n, .n, .n, .n, .n] _ [iC Try.f41 [1,1,0,1,0,0,1,0], iC Try.f41 uI1, iL Try.f41 uI0, .inBlock 0, iC Try.f41 [1,1,1]] [(2, pq br), (3, pq bq), (14, wv), (15, iN (List.length Z)), (16, iN i), (17, .bool (decide (((i : Nat) : Int) < (((List.length Z) : Nat) : Int))))] w (by kernel_rfl) .nil ?_
  refine GoS.cond (decide (((i : Nat) : Int) < (((List.length Z) : Nat) : Int))) [iC Try.f41 [1,1,0,1,0,0,1,0,0], iC Try.f41 uI1, iL Try.f41 uI0, .inBlock 0, iC Try.f41 [1,1,1]] [iC Try.f41 [1,1,0,1,0,0,1,0,1], iC Try.f41 uI1, iL Try.f41 uI0, .inBlock 0, iC Try.f41 [1,1,1]] (by kernel_rfl) (fun h1 => ?_) (fun h1 => ?_)
  ·
   have h1p : ((i : Nat) : Int) < (((List.length Z) : Nat) : Int) := of_decide_eq_true h1
   refine GoS.run [2, 3, 14, 15, 16] [.n] _ [iC Try.f41 uI1, iL Try.f41 uI0, .inBlock 0, iC Try.f41 [1,1,1]] [(2, pq br), (3, pq bq), (14, wv), (15, iN (List.length Z)), (16, iN i)] w (by kernel_rfl) .nil ?_
   obtain ⟨p9, hp10, hq11⟩ := rd_at (i := ((i : Nat) : Int)) sT27 (hz.kept0 hM.kept) i (by omega) (by first | omega | (dsimp only; omega))
   have o21 : (Instr.indexAt 27 (wv) (iN i)).run Try.prog w = .ok (.pointer (some p9)) w := hq11 _ _
   have o22 : (Instr.loadAt 68 (.pointer (some p9))).run Try.prog w = .ok (.agg #[sS ((List.getD Z i wz).wd.name), ((List.getD Z i wz).toks)]) w := r_loads (f := wzC) (l := Z) aE68 (hz.kept0 hM.kept) wzC_len hp10 (by first | omega | (dsimp only; omega)) wz
   obtain ⟨b12, w13, hr14, hM15⟩ := m_alloc oT68 hM
   have hM16 : Mem [] w0 w13 (⟨68, 2, (obj b12), 1, [sS ([]), .slice none 0 0]⟩ :: ⟨68, 2, vW, (List.length Y), (recs wzC Y)⟩ :: ⟨60, 2, vN, (List.length (p.nums)), (recs nmC (p.nums))⟩ :: ⟨29, 3, (obj br), 1, [sS ([]), .slice none 0 0, .slice none 0 0]⟩ :: ⟨29, 3, (obj bq), 1, [sS (p.key), vN, vW]⟩ :: T) := hM15
   obtain ⟨w17, hr18, hM19⟩ := c_stores (ys := [sS ((List.getD Z i wz).wd.name), ((List.getD Z i wz).toks)]) aE68 hM16 0 rfl (cel_obj b12 0) rfl (by decide) (by intro u hu; simp at hu; rcases hu with rfl | rfl <;> first | rfl | exact (rd_one ((ht (List.getD Z i wz) (getD_mem (by omega))).kept0 hM16.kept)))
   have hM20 : Mem [] w0 w17 (⟨68, 2, (obj b12), 1, [sS ((List.getD Z i wz).wd.name), ((List.getD Z i wz).toks)]⟩ :: ⟨68, 2, vW, (List.length Y), (recs wzC Y)⟩ :: ⟨60, 2, vN, (List.length (p.nums)), (recs nmC (p.nums))⟩ :: ⟨29, 3, (obj br), 1, [sS ([]), .slice none 0 0, .slice none 0 0]⟩ :: ⟨29, 3, (obj bq), 1, [sS (p.key), vN, vW]⟩ :: T) := hM19
   have o23 : (Instr.storeAt 68 (pq b12) (.agg #[sS ((List.getD Z i wz).wd.name), ((List.getD Z i wz).toks)])).run Try.prog w13 = .ok () w17 ∧ undef = undef := ⟨hr18, rfl⟩
   refine GoS.run [2, 3, 5, 14, 15, 16] [.n, .n, .n, .n, .h (.pointer (some p9)), .h (.agg #[sS ((List.getD Z i wz).wd.name), ((List.getD Z i wz).toks)]), .u (pq b12) (w13), .u (undef) (w17), .n] _ [iC Try.f41 [1,1,0,1,0,0,1,1,0,0,1], .inBlock 1, iC Try.f41 [1,1,0,1,0,0,1,1,1], iL Try.f41 uI0, .inBlock 0, iC Try.f41 [1,1,1]] [(2, pq br), (3, pq bq), (5, pq b12), (14, wv), (15, iN (List.length Z)), (16, iN i)] w17 (by kernel_rfl) (.cons o21 (.cons o22 (.cons hr14 (.cons o23 .nil)))) ?_
   obtain ⟨w24, hw25⟩ : ∃ w_, (w17).drewN 1 = w_ := ⟨_, rfl⟩
   refine GoS.held (fun W_ => Mem [] w0 W_ (⟨68, 2, (obj b12), 1, [sS ((List.getD Z i wz).wd.name), ((List.getD Z i wz).toks)]⟩ :: ⟨60, 2, vN, (List.length (p.nums)), (recs nmC (p.nums))⟩ :: ⟨29, 3, (obj br), 1, [sS ([]), .slice none 0 0, .slice none 0 0]⟩ :: ⟨29, 3, (obj bq), 1, [sS (p.key), vN, vW]⟩ :: T)) [12] 5 (by kernel_rfl) (by kernel_rfl) 13 (by kernel_rfl) ?_
   rw [hw25]
   have hM26 : Mem [] w0 w24 (⟨68, 2, (obj b12), 1, [sS ((List.getD Z i wz).wd.name), ((List.getD Z i wz).toks)]⟩ :: ⟨68, 2, vW, (List.length Y), (recs wzC Y)⟩ :: ⟨60, 2, vN, (List.length (p.nums)), (recs nmC (p.nums))⟩ :: ⟨29, 3, (obj br), 1, [sS ([]), .slice none 0 0, .slice none 0 0]⟩ :: ⟨29, 3, (obj bq), 1, [sS (p.key), vN, vW]⟩ :: T) := hw25 ▸ hM20.ext (Kept.drewN _ _ 1)
   have hS27 := hM26.sub (sK (sD (sK (sK (sK sR)))))
   refine GoH.takeV 0 (.pointer (some (⟨bq, 2, none⟩))) (.pointer (some (⟨bq, 2, none⟩))) (some 20) (fun W_ => by kernel_rfl) rfl hS27 ?_
   refine GoH.takeF 1 (vW) (fun W_ => (Instr.loadAt 27 (.pointer (some (⟨bq, 2, none⟩)))).run Try.prog W_ = .ok (vW) W_) (some 21) (fun W_ => by kernel_rfl) (fun W_ hW_ => c_load pE27 (hW_.rd 3 rfl) (cel_obj bq 2) rfl) hS27 ?_
   refine GoH.takeV 2 (pq b12) (pq b12) (some 22) (fun W_ => by kernel_rfl) rfl hS27 ?_
   refine GoH.takeF 3 (sS ((List.getD Z i wz).wd.name)) (fun W_ => (Instr.loadAt 9 (pq b12)).run Try.prog W_ = .ok (sS ((List.getD Z i wz).wd.name)) W_) (some 23) (fun W_ => by kernel_rfl) (fun W_ hW_ => c_load pE9 (hW_.rd 0 rfl) (cel_obj b12 0) rfl) hS27 ?_
   refine GoH.takeV 5 (.pointer (some (⟨b12, 1, none⟩))) (.pointer (some (⟨b12, 1, none⟩))) (some 25) (fun W_ => by kernel_rfl) rfl hS27 ?_
   refine GoH.takeF 6 (((List.getD Z i wz).toks)) (fun W_ => (Instr.loadAt 64 (.pointer (some (⟨b12, 1, none⟩)))).run Try.prog W_ = .ok (((List.getD Z i wz).toks)) W_) (some 26) (fun W_ => by kernel_rfl) (fun W_ hW_ => c_load pE64 (hW_.rd 0 rfl) (cel_obj b12 1) rfl) hS27 ?_
   obtain ⟨v28, w29, hr30, hM31⟩ := m_lit sT64 hM26 (n := 0) (parts := #[]) (cs := []) (by decide) (by kernel_rfl) rfl
   have hS32 := hM31.sub (sD (sK (sD (sK (sK (sK sR))))))
   refine GoH.stepF 4 (v28) (w29) ((Instr.buildSlice 64 0 #[]).run Try.prog w24 = .ok v28 w29) (some 24) (by kernel_rfl) (hr30) (.inr hS32) ?_
   obtain ⟨v33, w34, hr35, hM36⟩ := m_append sT64 hM31 0 rfl ((ht (List.getD Z i wz) (getD_mem (by omega))).kept0 hM31.kept) (recs_ones tokc_one ((List.getD Z i wz).wd.toks)) (by first | omega | (dsimp only; omega) | (have z := small_at hs hZ (i := i) (by omega); (try dsimp only); omega)) (by first | omega | (dsimp only; omega) | (have z := small_at hs hZ (i := i) (by omega); (try dsimp only); omega)) 64
   have hM37 : Mem [] w0 w34 (⟨79, 2, v33, (List.length ((List.getD Z i wz).wd.toks)), (recs tokc ((List.getD Z i wz).wd.toks))⟩ :: ⟨68, 2, (obj b12), 1, [sS ((List.getD Z i wz).wd.name), ((List.getD Z i wz).toks)]⟩ :: ⟨68, 2, vW, (List.length Y), (recs wzC Y)⟩ :: ⟨60, 2, vN, (List.length (p.nums)), (recs nmC (p.nums))⟩ :: ⟨29, 3, (obj br), 1, [sS ([]), .slice none 0 0, .slice none 0 0]⟩ :: ⟨29, 3, (obj bq), 1, [sS (p.key), vN, vW]⟩ :: T) := hM36.cast (by simp [ivals, svals, bvals, nvals, u8s, Nat.add_assoc, recs, tokc])
   have hS38 := hM37.sub (sD (sK (sD (sK (sK (sK sR))))))
   refine GoH.stepF 7 (v33) (w34) ((Builtin.append_ #[64, 64] 64 #[v28, ((List.getD Z i wz).toks)]).run Try.prog w29 = .ok v33 w34) (some 27) (by kernel_rfl) (hr35) (.inr hS38) ?_
   have hS39 := hM37.sub (sD (sK (sD (sK (sK (sK sR))))))
   refine GoH.stepF 8 (.agg #[sS ((List.getD Z i wz).wd.name), v33]) (w34) ((Instr.build 68 #[(0, sS ((List.getD Z i wz).wd.name)), (1, v33)]).run Try.prog w34 = .ok (.agg #[sS ((List.getD Z i wz).wd.name), v33]) w34) (some 28) (by kernel_rfl) ((by obtain ⟨a0_, m0_, c0_, e0_⟩ : ∃ a m c, v33 = Value.slice a m c := rd_form (hM37.rd 0 rfl); rw [e0_]; kernel_rfl)) (.inr hS39) ?_
   obtain ⟨v40, w41, hr42, hM43⟩ := m_lit sT27 hM37 (n := 1) (parts := #[(0, .agg #[sS ((List.getD Z i wz).wd.name), v33])]) (cs := [sS ((List.getD Z i wz).wd.name), v33]) (by decide) (by kernel_rfl) rfl
   have hS44 := hM43.sub (sD (sD (sK (sD (sK (sK (sK sR)))))))
   refine GoH.stepF 9 (v40) (w41) ((Instr.buildSlice 27 1 #[(0, .agg #[sS ((List.getD Z i wz).wd.name), v33])]).run Try.prog w34 = .ok v40 w41) (some 29) (by kernel_rfl) (hr42) (.inr hS44) ?_
   obtain ⟨v45, w46, hr47, hM48⟩ := m_append sT27 hM43 3 rfl (hM43.rd 0 rfl) (by intro u hu; simp only [List.mem_cons, List.not_mem_nil, or_false] at hu; rcases hu with rfl | rfl; exact rfl; exact (rd_one (hM43.rd 1 rfl))) (by first | omega | (dsimp only; omega) | (have z := small_at hs hZ (i := i) (by omega); (try dsimp only); omega)) (by first | omega | (dsimp only; omega) | (have z := small_at hs hZ (i := i) (by omega); (try dsimp only); omega)) 27
   have hM49 : Mem [] w0 w46 (⟨68, 2, v40, 1, [sS ((List.getD Z i wz).wd.name), v33]⟩ :: ⟨79, 2, v33, (List.length ((List.getD Z i wz).wd.toks)), (recs tokc ((List.getD Z i wz).wd.toks))⟩ :: ⟨68, 2, (obj b12), 1, [sS ((List.getD Z i wz).wd.name), ((List.getD Z i wz).toks)]⟩ :: ⟨68, 2, v45, (List.length (Y ++ ([(WZ.mk (Wd.mk ((List.getD Z i wz).wd.name) ((List.getD Z i wz).wd.toks)) v33)] : List WZ))), (recs wzC (Y ++ ([(WZ.mk (Wd.mk ((List.getD Z i wz).wd.name) ((List.getD Z i wz).wd.toks)) v33)] : List WZ)))⟩ :: ⟨60, 2, vN, (List.length (p.nums)), (recs nmC (p.nums))⟩ :: ⟨29, 3, (obj br), 1, [sS ([]), .slice none 0 0, .slice none 0 0]⟩ :: ⟨29, 3, (obj bq), 1, [sS (p.key), vN, vW]⟩ :: T) := hM48.cast (by simp [ivals, svals, bvals, nvals, u8s, Nat.add_assoc, recs, wzC])
   have hS50 := hM49.sub (sD (sD (sK (sD (sK (sK (sK sR)))))))
   refine GoH.stepF 10 (v45) (w46) ((Builtin.append_ #[27, 27] 27 #[vW, v40]).run Try.prog w41 = .ok v45 w46) (some 30) (by kernel_rfl) (hr47) (.inr hS50) ?_
   refine GoH.takeV 11 (.pointer (some (⟨bq, 2, none⟩))) (.pointer (some (⟨bq, 2, none⟩))) (some 31) (fun W_ => by kernel_rfl) rfl hS50 ?_
   obtain ⟨w51, hr52, hM53⟩ := c_store (u := v45) (by kernel_rfl) hM49 6 rfl (cel_obj bq 2) (by decide) (rd_one (hM49.rd 3 rfl)) (rd_cells (hM49.rd 3 rfl))
   have hM54 : Mem [] w0 w51 (⟨68, 2, v40, 1, [sS ((List.getD Z i wz).wd.name), v33]⟩ :: ⟨79, 2, v33, (List.length ((List.getD Z i wz).wd.toks)), (recs tokc ((List.getD Z i wz).wd.toks))⟩ :: ⟨68, 2, (obj b12), 1, [sS ((List.getD Z i wz).wd.name), ((List.getD Z i wz).toks)]⟩ :: ⟨68, 2, v45, (List.length (Y ++ ([(WZ.mk (Wd.mk ((List.getD Z i wz).wd.name) ((List.getD Z i wz).wd.toks)) v33)] : List WZ))), (recs wzC (Y ++ ([(WZ.mk (Wd.mk ((List.getD Z i wz).wd.name) ((List.getD Z i wz).wd.toks)) v33)] : List WZ)))⟩ :: ⟨60, 2, vN, (List.length (p.nums)), (recs nmC (p.nums))⟩ :: ⟨29, 3, (obj br), 1, [sS ([]), .slice none 0 0, .slice none 0 0]⟩ :: ⟨29, 3, (obj bq), 1, [sS (p.key), vN, v45]⟩ :: T) := hM53
   refine GoH.stepF 12 (undef) (w51) ((Instr.storeAt 27 (.pointer (some (⟨bq, 2, none⟩))) (v45)).run Try.prog w46 = .ok () w51 ∧ undef = undef) none (by kernel_rfl) (⟨hr52, rfl⟩) (.inl rfl) ?_
   refine GoH.done [2, 3, 14, 15, 16] [(2, pq br), (3, pq bq), (14, wv), (15, iN (List.length Z)), (16, iN i)] (by kernel_rfl) (by kernel_rfl) ?_
   have hM55 := hM54.sub (sD (sK (sD (sK (sK (sK (sK sR)))))))
   have o56 : (binOp .add 3 (iN i) (.int .i64 1)).run Try.prog w51 = .ok (iN (i + 1)) w51 := f_add (by rw [show ((i : Nat) : Int) + 1 = (((i + 1) : Nat) : Int) by omega]; exact IntWalk.i64_in _ (by omega))
   refine GoS.run [2, 3, 14, 15, 16] [.n, .n, .h (iN (i + 1)), .n, .n, .n] _ [iC Try.f41 uI0, iL Try.f41 uI0, .inBlock 0, iC Try.f41 [1,1,1]] [(2, pq br), (3, pq bq), (14, wv), (15, iN (List.length Z)), (16, iN (i + 1))] w51 (by kernel_rfl) (.cons o56 .nil) ?_
   have hM57 : Mem [] w0 w51 (⟨29, 3, (obj bq), 1, [sS (p.key), vN, v45]⟩ :: ⟨79, 2, v33, (List.length ((List.getD Z i wz).wd.toks)), (recs tokc ((List.getD Z i wz).wd.toks))⟩ :: ⟨68, 2, v45, (List.length (Y ++ ([(WZ.mk (Wd.mk ((List.getD Z i wz).wd.name) ((List.getD Z i wz).wd.toks)) v33)] : List WZ))), (recs wzC (Y ++ ([(WZ.mk (Wd.mk ((List.getD Z i wz).wd.name) ((List.getD Z i wz).wd.toks)) v33)] : List WZ)))⟩ :: ⟨60, 2, vN, (List.length (p.nums)), (recs nmC (p.nums))⟩ :: ⟨29, 3, (obj br), 1, [sS ([]), .slice none 0 0, .slice none 0 0]⟩ :: T) := hM55.perm (pS (pS (pS (pS pR))))
   have hM58 : Mem [] w0 w51 (⟨29, 3, (obj br), 1, [sS ([]), .slice none 0 0, .slice none 0 0]⟩ :: ⟨29, 3, (obj bq), 1, [sS (p.key), vN, v45]⟩ :: ⟨79, 2, v33, (List.length ((List.getD Z i wz).wd.toks)), (recs tokc ((List.getD Z i wz).wd.toks))⟩ :: ⟨68, 2, v45, (List.length (Y ++ ([(WZ.mk (Wd.mk ((List.getD Z i wz).wd.name) ((List.getD Z i wz).wd.toks)) v33)] : List WZ))), (recs wzC (Y ++ ([(WZ.mk (Wd.mk ((List.getD Z i wz).wd.name) ((List.getD Z i wz).wd.toks)) v33)] : List WZ)))⟩ :: ⟨60, 2, vN, (List.length (p.nums)), (recs nmC (p.nums))⟩ :: T) := hM57.perm (pS (pS (pS (pS pR))))
   have hM59 : Mem [] w0 w51 (⟨60, 2, vN, (List.length (p.nums)), (recs nmC (p.nums))⟩ :: ⟨29, 3, (obj br), 1, [sS ([]), .slice none 0 0, .slice none 0 0]⟩ :: ⟨29, 3, (obj bq), 1, [sS (p.key), vN, v45]⟩ :: ⟨79, 2, v33, (List.length ((List.getD Z i wz).wd.toks)), (recs tokc ((List.getD Z i wz).wd.toks))⟩ :: ⟨68, 2, v45, (List.length (Y ++ ([(WZ.mk (Wd.mk ((List.getD Z i wz).wd.name) ((List.getD Z i wz).wd.toks)) v33)] : List WZ))), (recs wzC (Y ++ ([(WZ.mk (Wd.mk ((List.getD Z i wz).wd.name) ((List.getD Z i wz).wd.toks)) v33)] : List WZ)))⟩ :: T) := hM58.perm (pS (pS (pS (pS pR))))
   have hM60 : Mem [] w0 w51 (⟨68, 2, v45, (List.length (Y ++ ([(WZ.mk (Wd.mk ((List.getD Z i wz).wd.name) ((List.getD Z i wz).wd.toks)) v33)] : List WZ))), (recs wzC (Y ++ ([(WZ.mk (Wd.mk ((List.getD Z i wz).wd.name) ((List.getD Z i wz).wd.toks)) v33)] : List WZ)))⟩ :: ⟨60, 2, vN, (List.length (p.nums)), (recs nmC (p.nums))⟩ :: ⟨29, 3, (obj br), 1, [sS ([]), .slice none 0 0, .slice none 0 0]⟩ :: ⟨29, 3, (obj bq), 1, [sS (p.key), vN, v45]⟩ :: ⟨79, 2, v33, (List.length ((List.getD Z i wz).wd.toks)), (recs tokc ((List.getD Z i wz).wd.toks))⟩ :: T) := hM59.perm (pS (pS (pS (pS pR))))
   exact ih v45 (Y ++ ([(WZ.mk (Wd.mk ((List.getD Z i wz).wd.name) ((List.getD Z i wz).wd.toks)) v33)] : List WZ)) (⟨79, 2, v33, (List.length ((List.getD Z i wz).wd.toks)), (recs tokc ((List.getD Z i wz).wd.toks))⟩ :: T) (i + 1) _ (by omega) (wz_snoc hY (by omega)) (fun z hz => by rcases List.mem_append.1 hz with g | g; exact mS (hT z g); obtain rfl := List.mem_singleton.1 g; exact List.mem_cons_self ..) (hM60.sub (sK (sK (sK (sK (sK sR)))))) (by omega)
  ·
   have h1p : ¬ (((i : Nat) : Int) < (((List.length Z) : Nat) : Int)) := of_decide_eq_false h1
   have o6 : (Instr.loadAt 29 (pq bq)).run Try.prog w = .ok (.agg #[sS (p.key), vN, vW]) w := c_loads (ys := [sS (p.key), vN, vW]) aE29 (hM.rd 3 rfl) (cel_obj bq 0) rfl (by intro j u hj; match j, hj with | 0, hj => exact hj | 1, hj => exact hj | 2, hj => exact hj | n + 3, hj => cases hj)
   obtain ⟨w2, hr3, hM4⟩ := c_stores (ys := [sS (p.key), vN, vW]) aE29 hM 2 rfl (cel_obj br 0) rfl (by decide) (by intro u hu; simp at hu; rcases hu with rfl | rfl | rfl <;> first | rfl | exact (rd_one (hM.rd 1 rfl)) | exact (rd_one (hM.rd 0 rfl)))
   have hM5 : Mem [] w0 w2 (⟨68, 2, vW, (List.length Y), (recs wzC Y)⟩ :: ⟨60, 2, vN, (List.length (p.nums)), (recs nmC (p.nums))⟩ :: ⟨29, 3, (obj br), 1, [sS (p.key), vN, vW]⟩ :: ⟨29, 3, (obj bq), 1, [sS (p.key), vN, vW]⟩ :: T) := hM4
   have o7 : (Instr.storeAt 29 (pq br) (.agg #[sS (p.key), vN, vW])).run Try.prog w = .ok () w2 ∧ undef = undef := ⟨hr3, rfl⟩
   refine GoS.run [2] [.n, .n, .n, .h (.agg #[sS (p.key), vN, vW]), .u (undef) (w2), .n] _ [iC Try.f41 [1,1,1,1]] [(2, pq br)] w2 (by kernel_rfl) (.cons o6 (.cons o7 .nil)) ?_
   have o8 : (Instr.loadAt 29 (pq br)).run Try.prog w2 = .ok (.agg #[sS (p.key), vN, vW]) w2 := c_loads (ys := [sS (p.key), vN, vW]) aE29 (hM5.rd 2 rfl) (cel_obj br 0) rfl (by intro j u hj; match j, hj with | 0, hj => exact hj | 1, hj => exact hj | 2, hj => exact hj | n + 3, hj => cases hj)
   refine GoS.retC (fn := Try.f41) (rs := [.cell 2 29]) [.agg #[sS (p.key), vN, vW]] (v := (.agg #[sS (p.key), vN, vW])) Try.func41 (by kernel_rfl) (ResC.cell (by kernel_rfl) o8 ResC.nil) rfl ?_
   rw [hR]
   exact ⟨_, _, ⟨68, 2, vW, (List.length Y), (recs wzC Y)⟩ :: ⟨60, 2, vN, (List.length (p.nums)), (recs nmC (p.nums))⟩ :: T, rfl, ⟨mS (List.mem_cons_self ..), Y, by rw [hY, hZ, take_all' (by omega)], List.mem_cons_self .., fun z hz => mS (mS (hT z hz))⟩, hM5.sub (sK (sK (sD (sD sR))))⟩

set_option maxHeartbeats 400000 in
theorem copied_c {w : World} (p : Pc) (nv wv : Value) (hs : SmallP p) (hp : RdP w p nv wv) :
  Calls Try.prog 41 #[.agg #[sS (p.key), nv, wv]] w (fun e w' => ∃ (nv' wv' : Value) (T : List Row), e = .returned (.agg #[sS p.key, nv', wv']) ∧ OwP 60 68 79 T p nv' wv' ∧ Mem [] w w' T) := by
 obtain ⟨hn, Z, hZ, hz, ht⟩ := hp
 have hs1 := hs.nums
 have hs2 := hs.words
 rw [hZ, List.length_map] at hs2
 obtain ⟨R, hR⟩ : ∃ R : Ending → World → Prop, R = (fun e w' => ∃ (nv' wv' : Value) (T : List Row), e = .returned (.agg #[sS p.key, nv', wv']) ∧ OwP 60 68 79 T p nv' wv' ∧ Mem [] w w' T) := ⟨_, rfl⟩
 rw [← hR]
 refine GoS.enter (n := 34) Try.func41 (by kernel_rfl) rfl [(0, .agg #[sS (p.key), nv, wv])] (by kernel_rfl) (by kernel_rfl) ?_
 have hM0 := Mem.start w
 obtain ⟨b1, w2, hr3, hM4⟩ := m_box (T := 29) (k := 3) (u := .agg #[sS (p.key), nv, wv]) rfl rfl hM0
 have hM5 : Mem [] w w2 [⟨29, 3, (obj b1), 1, [sS (p.key), nv, wv]⟩] := hM4
 have o11 : (Instr.box 29 (.agg #[sS (p.key), nv, wv])).run Try.prog w = .ok (pq b1) w2 := hr3
 obtain ⟨b6, w7, hr8, hM9⟩ := m_alloc oT29 hM5
 have hM10 : Mem [] w w7 [⟨29, 3, (obj b6), 1, [sS ([]), .slice none 0 0, .slice none 0 0]⟩, ⟨29, 3, (obj b1), 1, [sS (p.key), nv, wv]⟩] := hM9
 refine GoS.run [1, 2] [.n, .n, .u (pq b1) (w2), .u (pq b6) (w7), .n, .n] _ [iC Try.f41 [1,0], iC Try.f41 [1,1]] [(1, pq b1), (2, pq b6)] w7 (by kernel_rfl) (.cons o11 (.cons hr8 .nil)) ?_
 obtain ⟨w12, hw13⟩ : ∃ w_, (w7).drewN 1 = w_ := ⟨_, rfl⟩
 refine GoS.held (fun W_ => Mem [] w W_ [⟨29, 3, (obj b6), 1, [sS ([]), .slice none 0 0, .slice none 0 0]⟩, ⟨29, 3, (obj b1), 1, [sS (p.key), nv, wv]⟩]) [8] 1 (by kernel_rfl) (by kernel_rfl) 9 (by kernel_rfl) ?_
 rw [hw13]
 have hM14 : Mem [] w w12 [⟨29, 3, (obj b6), 1, [sS ([]), .slice none 0 0, .slice none 0 0]⟩, ⟨29, 3, (obj b1), 1, [sS (p.key), nv, wv]⟩] := hw13 ▸ hM10.ext (Kept.drewN _ _ 1)
 have hS15 := hM14.sub (sK (sK sR))
 refine GoH.takeV 0 (pq b1) (pq b1) (some 6) (fun W_ => by kernel_rfl) rfl hS15 ?_
 refine GoH.takeF 1 (sS (p.key)) (fun W_ => (Instr.loadAt 9 (pq b1)).run Try.prog W_ = .ok (sS (p.key)) W_) (some 7) (fun W_ => by kernel_rfl) (fun W_ hW_ => c_load pE9 (hW_.rd 1 rfl) (cel_obj b1 0) rfl) hS15 ?_
 refine GoH.takeV 3 (.pointer (some (⟨b1, 1, none⟩))) (.pointer (some (⟨b1, 1, none⟩))) (some 9) (fun W_ => by kernel_rfl) rfl hS15 ?_
 refine GoH.takeF 4 (nv) (fun W_ => (Instr.loadAt 23 (.pointer (some (⟨b1, 1, none⟩)))).run Try.prog W_ = .ok (nv) W_) (some 10) (fun W_ => by kernel_rfl) (fun W_ hW_ => c_load pE23 (hW_.rd 1 rfl) (cel_obj b1 1) rfl) hS15 ?_
 refine GoH.each [2, 7] (by kernel_rfl) (by kernel_rfl) ⟨?_, ?_, trivial⟩
 ·
  obtain ⟨v16, w17, hr18, hM19⟩ := m_lit sT23 hM14 (n := 0) (parts := #[]) (cs := []) (by decide) (by kernel_rfl) rfl
  have hS20 := hM19.sub (sD (sK (sK sR)))
  refine GoI.stepF 2 (v16) (w17) ((Instr.buildSlice 23 0 #[]).run Try.prog w12 = .ok v16 w17) (some 8) (by kernel_rfl) (hr18) (.inr hS20) ?_
  refine GoH.each [5, 7] (by kernel_rfl) (by kernel_rfl) ⟨?_, ?_, trivial⟩
  ·
   obtain ⟨v21, w22, hr23, hM24⟩ := m_append sT23 hM19 0 rfl (hn.kept0 hM19.kept) (recs_ones nmC_one (p.nums)) (by first | omega | (dsimp only; omega) | (have z := small_at hs hZ (i := i) (by omega); (try dsimp only); omega)) (by first | omega | (dsimp only; omega) | (have z := small_at hs hZ (i := i) (by omega); (try dsimp only); omega)) 23
   have hM25 : Mem [] w w22 [⟨60, 2, v21, (List.length (p.nums)), (recs nmC (p.nums))⟩, ⟨29, 3, (obj b6), 1, [sS ([]), .slice none 0 0, .slice none 0 0]⟩, ⟨29, 3, (obj b1), 1, [sS (p.key), nv, wv]⟩] := hM24.cast (by simp [ivals, svals, bvals, nvals, u8s, Nat.add_assoc, recs, nmC])
   have hS26 := hM25.sub (sD (sK (sK sR)))
   refine GoI.stepF 5 (v21) (w22) ((Builtin.append_ #[23, 23] 23 #[v16, nv]).run Try.prog w17 = .ok v21 w22) (some 11) (by kernel_rfl) (hr23) (.inr hS26) ?_
   refine GoH.each [6, 7] (by kernel_rfl) (by kernel_rfl) ⟨?_, ?_, trivial⟩
   ·
    have hS27 := hM25.sub (sD (sK (sK sR)))
    refine GoI.stepF 6 (.agg #[sS (p.key), v21, .slice none 0 0]) (w22) ((Instr.build 29 #[(0, sS (p.key)), (1, v21)]).run Try.prog w22 = .ok (.agg #[sS (p.key), v21, .slice none 0 0]) w22) (some 12) (by kernel_rfl) ((by obtain ⟨a0_, m0_, c0_, e0_⟩ : ∃ a m c, v21 = Value.slice a m c := rd_form (hM25.rd 0 rfl); rw [e0_]; kernel_rfl)) (.inr hS27) ?_
    obtain ⟨b28, w29, hr30, hM31⟩ := m_alloc oT29 hM25
    have hM32 : Mem [] w w29 [⟨29, 3, (obj b28), 1, [sS ([]), .slice none 0 0, .slice none 0 0]⟩, ⟨60, 2, v21, (List.length (p.nums)), (recs nmC (p.nums))⟩, ⟨29, 3, (obj b6), 1, [sS ([]), .slice none 0 0, .slice none 0 0]⟩, ⟨29, 3, (obj b1), 1, [sS (p.key), nv, wv]⟩] := hM31
    have hS33 := hM32.sub (sD (sD (sK (sK sR))))
    refine GoH.stepF 7 (pq b28) (w29) ((Instr.alloc 29 true (.tuple #[])).run Try.prog w22 = .ok (pq b28) w29) (some 3) (by kernel_rfl) (hr30) (.inr hS33) ?_
    obtain ⟨w34, hr35, hM36⟩ := c_stores (ys := [sS (p.key), v21, .slice none 0 0]) aE29 hM32 0 rfl (cel_obj b28 0) rfl (by decide) (by intro u hu; simp at hu; rcases hu with rfl | rfl | rfl <;> first | rfl | exact (rd_one (hM32.rd 1 rfl)))
    have hM37 : Mem [] w w34 [⟨29, 3, (obj b28), 1, [sS (p.key), v21, .slice none 0 0]⟩, ⟨60, 2, v21, (List.length (p.nums)), (recs nmC (p.nums))⟩, ⟨29, 3, (obj b6), 1, [sS ([]), .slice none 0 0, .slice none 0 0]⟩, ⟨29, 3, (obj b1), 1, [sS (p.key), nv, wv]⟩] := hM36
    refine GoH.stepF 8 (undef) (w34) ((Instr.storeAt 29 (pq b28) (.agg #[sS (p.key), v21, .slice none 0 0])).run Try.prog w29 = .ok () w34 ∧ undef = undef) none (by kernel_rfl) (⟨hr35, rfl⟩) (.inl rfl) ?_
    refine GoH.done [1, 2, 3] [(1, pq b1), (2, pq b6), (3, pq b28)] (by kernel_rfl) (by kernel_rfl) ?_
    have o88 : (Instr.loadAt 27 (.pointer (some (⟨b1, 2, none⟩)))).run Try.prog w34 = .ok (wv) w34 := c_load pE27 (hM37.rd 3 rfl) (cel_obj b1 2) rfl
    have o89 : (Builtin.len_ #[27] 3 #[wv]).run Try.prog w34 = .ok (iN (List.length Z)) w34 := f_slen sT27 (hz.kept0 hM37.kept) 3 _
    have hM90 := hM37.sub (sK (sK (sK (sD sR))))
    refine GoS.run [2, 3, 14, 15, 16] [.n, .n, .n, .n, .h (wv), .h (iN (List.length Z)), .n, .n, .n, .n] _ [iC Try.f41 uI0, iL Try.f41 uI0, .inBlock 0, iC Try.f41 [1,1,1]] [(2, pq b6), (3, pq b28), (14, wv), (15, iN (List.length Z)), (16, .int .i64 0)] w34 (by kernel_rfl) (.cons o88 (.cons o89 .nil)) ?_
    have hM91 := hM90.nilrow 68 2
    have hM92 : Mem [] w w34 [⟨29, 3, (obj b28), 1, [sS (p.key), v21, .slice none 0 0]⟩, ⟨68, 2, (.slice none 0 0), 0, []⟩, ⟨60, 2, v21, (List.length (p.nums)), (recs nmC (p.nums))⟩, ⟨29, 3, (obj b6), 1, [sS ([]), .slice none 0 0, .slice none 0 0]⟩] := hM91.perm (pS pR)
    have hM93 : Mem [] w w34 [⟨29, 3, (obj b6), 1, [sS ([]), .slice none 0 0, .slice none 0 0]⟩, ⟨29, 3, (obj b28), 1, [sS (p.key), v21, .slice none 0 0]⟩, ⟨68, 2, (.slice none 0 0), 0, []⟩, ⟨60, 2, v21, (List.length (p.nums)), (recs nmC (p.nums))⟩] := hM92.perm (pS (pS (pS pR)))
    have hM94 : Mem [] w w34 [⟨60, 2, v21, (List.length (p.nums)), (recs nmC (p.nums))⟩, ⟨29, 3, (obj b6), 1, [sS ([]), .slice none 0 0, .slice none 0 0]⟩, ⟨29, 3, (obj b28), 1, [sS (p.key), v21, .slice none 0 0]⟩, ⟨68, 2, (.slice none 0 0), 0, []⟩] := hM93.perm (pS (pS (pS pR)))
    have hM95 : Mem [] w w34 [⟨68, 2, (.slice none 0 0), 0, []⟩, ⟨60, 2, v21, (List.length (p.nums)), (recs nmC (p.nums))⟩, ⟨29, 3, (obj b6), 1, [sS ([]), .slice none 0 0, .slice none 0 0]⟩, ⟨29, 3, (obj b28), 1, [sS (p.key), v21, .slice none 0 0]⟩] := hM94.perm (pS (pS (pS pR)))
    exact copied_L p nv wv hs hn Z hZ hz ht v21 b6 b28 R hR (Z.length + 1) (.slice none 0 0) [] [] 0 w34 (Nat.zero_le _) rfl (fun z hz => by cases hz) ((hM95.sub (sK (sK (sK (sK sN))))).cast (by first | rfl | simp [recs])) (by omega)
   ·
    obtain ⟨b38, w39, hr40, hM41⟩ := m_alloc oT29 hM25
    have hM42 : Mem [] w w39 [⟨29, 3, (obj b38), 1, [sS ([]), .slice none 0 0, .slice none 0 0]⟩, ⟨60, 2, v21, (List.length (p.nums)), (recs nmC (p.nums))⟩, ⟨29, 3, (obj b6), 1, [sS ([]), .slice none 0 0, .slice none 0 0]⟩, ⟨29, 3, (obj b1), 1, [sS (p.key), nv, wv]⟩] := hM41
    have hS43 := hM42.sub (sD (sD (sK (sK sR))))
    refine GoI.stepF 7 (pq b38) (w39) ((Instr.alloc 29 true (.tuple #[])).run Try.prog w22 = .ok (pq b38) w39) (some 3) (by kernel_rfl) (hr40) (.inr hS43) ?_
    have hS44 := hM42.sub (sD (sD (sK (sK sR))))
    refine GoH.stepF 6 (.agg #[sS (p.key), v21, .slice none 0 0]) (w39) ((Instr.build 29 #[(0, sS (p.key)), (1, v21)]).run Try.prog w39 = .ok (.agg #[sS (p.key), v21, .slice none 0 0]) w39) (some 12) (by kernel_rfl) ((by obtain ⟨a0_, m0_, c0_, e0_⟩ : ∃ a m c, v21 = Value.slice a m c := rd_form (hM42.rd 1 rfl); rw [e0_]; kernel_rfl)) (.inr hS44) ?_
    obtain ⟨w45, hr46, hM47⟩ := c_stores (ys := [sS (p.key), v21, .slice none 0 0]) aE29 hM42 0 rfl (cel_obj b38 0) rfl (by decide) (by intro u hu; simp at hu; rcases hu with rfl | rfl | rfl <;> first | rfl | exact (rd_one (hM42.rd 1 rfl)))
    have hM48 : Mem [] w w45 [⟨29, 3, (obj b38), 1, [sS (p.key), v21, .slice none 0 0]⟩, ⟨60, 2, v21, (List.length (p.nums)), (recs nmC (p.nums))⟩, ⟨29, 3, (obj b6), 1, [sS ([]), .slice none 0 0, .slice none 0 0]⟩, ⟨29, 3, (obj b1), 1, [sS (p.key), nv, wv]⟩] := hM47
    refine GoH.stepF 8 (undef) (w45) ((Instr.storeAt 29 (pq b38) (.agg #[sS (p.key), v21, .slice none 0 0])).run Try.prog w39 = .ok () w45 ∧ undef = undef) none (by kernel_rfl) (⟨hr46, rfl⟩) (.inl rfl) ?_
    refine GoH.done [1, 2, 3] [(1, pq b1), (2, pq b6), (3, pq b38)] (by kernel_rfl) (by kernel_rfl) ?_
    have o96 : (Instr.loadAt 27 (.pointer (some (⟨b1, 2, none⟩)))).run Try.prog w45 = .ok (wv) w45 := c_load pE27 (hM48.rd 3 rfl) (cel_obj b1 2) rfl
    have o97 : (Builtin.len_ #[27] 3 #[wv]).run Try.prog w45 = .ok (iN (List.length Z)) w45 := f_slen sT27 (hz.kept0 hM48.kept) 3 _
    have hM98 := hM48.sub (sK (sK (sK (sD sR))))
    refine GoS.run [2, 3, 14, 15, 16] [.n, .n, .n, .n, .h (wv), .h (iN (List.length Z)), .n, .n, .n, .n] _ [iC Try.f41 uI0, iL Try.f41 uI0, .inBlock 0, iC Try.f41 [1,1,1]] [(2, pq b6), (3, pq b38), (14, wv), (15, iN (List.length Z)), (16, .int .i64 0)] w45 (by kernel_rfl) (.cons o96 (.cons o97 .nil)) ?_
    have hM99 := hM98.nilrow 68 2
    have hM100 : Mem [] w w45 [⟨29, 3, (obj b38), 1, [sS (p.key), v21, .slice none 0 0]⟩, ⟨68, 2, (.slice none 0 0), 0, []⟩, ⟨60, 2, v21, (List.length (p.nums)), (recs nmC (p.nums))⟩, ⟨29, 3, (obj b6), 1, [sS ([]), .slice none 0 0, .slice none 0 0]⟩] := hM99.perm (pS pR)
    have hM101 : Mem [] w w45 [⟨29, 3, (obj b6), 1, [sS ([]), .slice none 0 0, .slice none 0 0]⟩, ⟨29, 3, (obj b38), 1, [sS (p.key), v21, .slice none 0 0]⟩, ⟨68, 2, (.slice none 0 0), 0, []⟩, ⟨60, 2, v21, (List.length (p.nums)), (recs nmC (p.nums))⟩] := hM100.perm (pS (pS (pS pR)))
    have hM102 : Mem [] w w45 [⟨60, 2, v21, (List.length (p.nums)), (recs nmC (p.nums))⟩, ⟨29, 3, (obj b6), 1, [sS ([]), .slice none 0 0, .slice none 0 0]⟩, ⟨29, 3, (obj b38), 1, [sS (p.key), v21, .slice none 0 0]⟩, ⟨68, 2, (.slice none 0 0), 0, []⟩] := hM101.perm (pS (pS (pS pR)))
    have hM103 : Mem [] w w45 [⟨68, 2, (.slice none 0 0), 0, []⟩, ⟨60, 2, v21, (List.length (p.nums)), (recs nmC (p.nums))⟩, ⟨29, 3, (obj b6), 1, [sS ([]), .slice none 0 0, .slice none 0 0]⟩, ⟨29, 3, (obj b38), 1, [sS (p.key), v21, .slice none 0 0]⟩] := hM102.perm (pS (pS (pS pR)))
    exact copied_L p nv wv hs hn Z hZ hz ht v21 b6 b38 R hR (Z.length + 1) (.slice none 0 0) [] [] 0 w45 (Nat.zero_le _) rfl (fun z hz => by cases hz) ((hM103.sub (sK (sK (sK (sK sN))))).cast (by first | rfl | simp [recs])) (by omega)
  ·
   obtain ⟨b49, w50, hr51, hM52⟩ := m_alloc oT29 hM19
   have hM53 : Mem [] w w50 [⟨29, 3, (obj b49), 1, [sS ([]), .slice none 0 0, .slice none 0 0]⟩, ⟨60, 2, v16, 0, []⟩, ⟨29, 3, (obj b6), 1, [sS ([]), .slice none 0 0, .slice none 0 0]⟩, ⟨29, 3, (obj b1), 1, [sS (p.key), nv, wv]⟩] := hM52
   have hS54 := hM53.sub (sD (sD (sK (sK sR))))
   refine GoI.stepF 7 (pq b49) (w50) ((Instr.alloc 29 true (.tuple #[])).run Try.prog w17 = .ok (pq b49) w50) (some 3) (by kernel_rfl) (hr51) (.inr hS54) ?_
   obtain ⟨v55, w56, hr57, hM58⟩ := m_append sT23 hM53 1 rfl (hn.kept0 hM53.kept) (recs_ones nmC_one (p.nums)) (by first | omega | (dsimp only; omega) | (have z := small_at hs hZ (i := i) (by omega); (try dsimp only); omega)) (by first | omega | (dsimp only; omega) | (have z := small_at hs hZ (i := i) (by omega); (try dsimp only); omega)) 23
   have hM59 : Mem [] w w56 [⟨29, 3, (obj b49), 1, [sS ([]), .slice none 0 0, .slice none 0 0]⟩, ⟨60, 2, v55, (List.length (p.nums)), (recs nmC (p.nums))⟩, ⟨29, 3, (obj b6), 1, [sS ([]), .slice none 0 0, .slice none 0 0]⟩, ⟨29, 3, (obj b1), 1, [sS (p.key), nv, wv]⟩] := hM58.cast (by simp [ivals, svals, bvals, nvals, u8s, Nat.add_assoc, recs, nmC])
   have hS60 := hM59.sub (sD (sD (sK (sK sR))))
   refine GoH.stepF 5 (v55) (w56) ((Builtin.append_ #[23, 23] 23 #[v16, nv]).run Try.prog w50 = .ok v55 w56) (some 11) (by kernel_rfl) (hr57) (.inr hS60) ?_
   have hS61 := hM59.sub (sD (sD (sK (sK sR))))
   refine GoH.stepF 6 (.agg #[sS (p.key), v55, .slice none 0 0]) (w56) ((Instr.build 29 #[(0, sS (p.key)), (1, v55)]).run Try.prog w56 = .ok (.agg #[sS (p.key), v55, .slice none 0 0]) w56) (some 12) (by kernel_rfl) ((by obtain ⟨a0_, m0_, c0_, e0_⟩ : ∃ a m c, v55 = Value.slice a m c := rd_form (hM59.rd 1 rfl); rw [e0_]; kernel_rfl)) (.inr hS61) ?_
   obtain ⟨w62, hr63, hM64⟩ := c_stores (ys := [sS (p.key), v55, .slice none 0 0]) aE29 hM59 0 rfl (cel_obj b49 0) rfl (by decide) (by intro u hu; simp at hu; rcases hu with rfl | rfl | rfl <;> first | rfl | exact (rd_one (hM59.rd 1 rfl)))
   have hM65 : Mem [] w w62 [⟨29, 3, (obj b49), 1, [sS (p.key), v55, .slice none 0 0]⟩, ⟨60, 2, v55, (List.length (p.nums)), (recs nmC (p.nums))⟩, ⟨29, 3, (obj b6), 1, [sS ([]), .slice none 0 0, .slice none 0 0]⟩, ⟨29, 3, (obj b1), 1, [sS (p.key), nv, wv]⟩] := hM64
   refine GoH.stepF 8 (undef) (w62) ((Instr.storeAt 29 (pq b49) (.agg #[sS (p.key), v55, .slice none 0 0])).run Try.prog w56 = .ok () w62 ∧ undef = undef) none (by kernel_rfl) (⟨hr63, rfl⟩) (.inl rfl) ?_
   refine GoH.done [1, 2, 3] [(1, pq b1), (2, pq b6), (3, pq b49)] (by kernel_rfl) (by kernel_rfl) ?_
   have o104 : (Instr.loadAt 27 (.pointer (some (⟨b1, 2, none⟩)))).run Try.prog w62 = .ok (wv) w62 := c_load pE27 (hM65.rd 3 rfl) (cel_obj b1 2) rfl
   have o105 : (Builtin.len_ #[27] 3 #[wv]).run Try.prog w62 = .ok (iN (List.length Z)) w62 := f_slen sT27 (hz.kept0 hM65.kept) 3 _
   have hM106 := hM65.sub (sK (sK (sK (sD sR))))
   refine GoS.run [2, 3, 14, 15, 16] [.n, .n, .n, .n, .h (wv), .h (iN (List.length Z)), .n, .n, .n, .n] _ [iC Try.f41 uI0, iL Try.f41 uI0, .inBlock 0, iC Try.f41 [1,1,1]] [(2, pq b6), (3, pq b49), (14, wv), (15, iN (List.length Z)), (16, .int .i64 0)] w62 (by kernel_rfl) (.cons o104 (.cons o105 .nil)) ?_
   have hM107 := hM106.nilrow 68 2
   have hM108 : Mem [] w w62 [⟨29, 3, (obj b49), 1, [sS (p.key), v55, .slice none 0 0]⟩, ⟨68, 2, (.slice none 0 0), 0, []⟩, ⟨60, 2, v55, (List.length (p.nums)), (recs nmC (p.nums))⟩, ⟨29, 3, (obj b6), 1, [sS ([]), .slice none 0 0, .slice none 0 0]⟩] := hM107.perm (pS pR)
   have hM109 : Mem [] w w62 [⟨29, 3, (obj b6), 1, [sS ([]), .slice none 0 0, .slice none 0 0]⟩, ⟨29, 3, (obj b49), 1, [sS (p.key), v55, .slice none 0 0]⟩, ⟨68, 2, (.slice none 0 0), 0, []⟩, ⟨60, 2, v55, (List.length (p.nums)), (recs nmC (p.nums))⟩] := hM108.perm (pS (pS (pS pR)))
   have hM110 : Mem [] w w62 [⟨60, 2, v55, (List.length (p.nums)), (recs nmC (p.nums))⟩, ⟨29, 3, (obj b6), 1, [sS ([]), .slice none 0 0, .slice none 0 0]⟩, ⟨29, 3, (obj b49), 1, [sS (p.key), v55, .slice none 0 0]⟩, ⟨68, 2, (.slice none 0 0), 0, []⟩] := hM109.perm (pS (pS (pS pR)))
   have hM111 : Mem [] w w62 [⟨68, 2, (.slice none 0 0), 0, []⟩, ⟨60, 2, v55, (List.length (p.nums)), (recs nmC (p.nums))⟩, ⟨29, 3, (obj b6), 1, [sS ([]), .slice none 0 0, .slice none 0 0]⟩, ⟨29, 3, (obj b49), 1, [sS (p.key), v55, .slice none 0 0]⟩] := hM110.perm (pS (pS (pS pR)))
   exact copied_L p nv wv hs hn Z hZ hz ht v55 b6 b49 R hR (Z.length + 1) (.slice none 0 0) [] [] 0 w62 (Nat.zero_le _) rfl (fun z hz => by cases hz) ((hM111.sub (sK (sK (sK (sK sN))))).cast (by first | rfl | simp [recs])) (by omega)
 ·
  obtain ⟨b66, w67, hr68, hM69⟩ := m_alloc oT29 hM14
  have hM70 : Mem [] w w67 [⟨29, 3, (obj b66), 1, [sS ([]), .slice none 0 0, .slice none 0 0]⟩, ⟨29, 3, (obj b6), 1, [sS ([]), .slice none 0 0, .slice none 0 0]⟩, ⟨29, 3, (obj b1), 1, [sS (p.key), nv, wv]⟩] := hM69
  have hS71 := hM70.sub (sD (sK (sK sR)))
  refine GoI.stepF 7 (pq b66) (w67) ((Instr.alloc 29 true (.tuple #[])).run Try.prog w12 = .ok (pq b66) w67) (some 3) (by kernel_rfl) (hr68) (.inr hS71) ?_
  obtain ⟨v72, w73, hr74, hM75⟩ := m_lit sT23 hM70 (n := 0) (parts := #[]) (cs := []) (by decide) (by kernel_rfl) rfl
  have hS76 := hM75.sub (sD (sD (sK (sK sR))))
  refine GoH.stepF 2 (v72) (w73) ((Instr.buildSlice 23 0 #[]).run Try.prog w67 = .ok v72 w73) (some 8) (by kernel_rfl) (hr74) (.inr hS76) ?_
  obtain ⟨v77, w78, hr79, hM80⟩ := m_append sT23 hM75 0 rfl (hn.kept0 hM75.kept) (recs_ones nmC_one (p.nums)) (by first | omega | (dsimp only; omega) | (have z := small_at hs hZ (i := i) (by omega); (try dsimp only); omega)) (by first | omega | (dsimp only; omega) | (have z := small_at hs hZ (i := i) (by omega); (try dsimp only); omega)) 23
  have hM81 : Mem [] w w78 [⟨60, 2, v77, (List.length (p.nums)), (recs nmC (p.nums))⟩, ⟨29, 3, (obj b66), 1, [sS ([]), .slice none 0 0, .slice none 0 0]⟩, ⟨29, 3, (obj b6), 1, [sS ([]), .slice none 0 0, .slice none 0 0]⟩, ⟨29, 3, (obj b1), 1, [sS (p.key), nv, wv]⟩] := hM80.cast (by simp [ivals, svals, bvals, nvals, u8s, Nat.add_assoc, recs, nmC])
  have hS82 := hM81.sub (sD (sD (sK (sK sR))))
  refine GoH.stepF 5 (v77) (w78) ((Builtin.append_ #[23, 23] 23 #[v72, nv]).run Try.prog w73 = .ok v77 w78) (some 11) (by kernel_rfl) (hr79) (.inr hS82) ?_
  have hS83 := hM81.sub (sD (sD (sK (sK sR))))
  refine GoH.stepF 6 (.agg #[sS (p.key), v77, .slice none 0 0]) (w78) ((Instr.build 29 #[(0, sS (p.key)), (1, v77)]).run Try.prog w78 = .ok (.agg #[sS (p.key), v77, .slice none 0 0]) w78) (some 12) (by kernel_rfl) ((by obtain ⟨a0_, m0_, c0_, e0_⟩ : ∃ a m c, v77 = Value.slice a m c := rd_form (hM81.rd 0 rfl); rw [e0_]; kernel_rfl)) (.inr hS83) ?_
  obtain ⟨w84, hr85, hM86⟩ := c_stores (ys := [sS (p.key), v77, .slice none 0 0]) aE29 hM81 1 rfl (cel_obj b66 0) rfl (by decide) (by intro u hu; simp at hu; rcases hu with rfl | rfl | rfl <;> first | rfl | exact (rd_one (hM81.rd 0 rfl)))
  have hM87 : Mem [] w w84 [⟨60, 2, v77, (List.length (p.nums)), (recs nmC (p.nums))⟩, ⟨29, 3, (obj b66), 1, [sS (p.key), v77, .slice none 0 0]⟩, ⟨29, 3, (obj b6), 1, [sS ([]), .slice none 0 0, .slice none 0 0]⟩, ⟨29, 3, (obj b1), 1, [sS (p.key), nv, wv]⟩] := hM86
  refine GoH.stepF 8 (undef) (w84) ((Instr.storeAt 29 (pq b66) (.agg #[sS (p.key), v77, .slice none 0 0])).run Try.prog w78 = .ok () w84 ∧ undef = undef) none (by kernel_rfl) (⟨hr85, rfl⟩) (.inl rfl) ?_
  refine GoH.done [1, 2, 3] [(1, pq b1), (2, pq b6), (3, pq b66)] (by kernel_rfl) (by kernel_rfl) ?_
  have o112 : (Instr.loadAt 27 (.pointer (some (⟨b1, 2, none⟩)))).run Try.prog w84 = .ok (wv) w84 := c_load pE27 (hM87.rd 3 rfl) (cel_obj b1 2) rfl
  have o113 : (Builtin.len_ #[27] 3 #[wv]).run Try.prog w84 = .ok (iN (List.length Z)) w84 := f_slen sT27 (hz.kept0 hM87.kept) 3 _
  have hM114 := hM87.sub (sK (sK (sK (sD sR))))
  refine GoS.run [2, 3, 14, 15, 16] [.n, .n, .n, .n, .h (wv), .h (iN (List.length Z)), .n, .n, .n, .n] _ [iC Try.f41 uI0, iL Try.f41 uI0, .inBlock 0, iC Try.f41 [1,1,1]] [(2, pq b6), (3, pq b66), (14, wv), (15, iN (List.length Z)), (16, .int .i64 0)] w84 (by kernel_rfl) (.cons o112 (.cons o113 .nil)) ?_
  have hM115 := hM114.nilrow 68 2
  have hM116 : Mem [] w w84 [⟨29, 3, (obj b66), 1, [sS (p.key), v77, .slice none 0 0]⟩, ⟨68, 2, (.slice none 0 0), 0, []⟩, ⟨60, 2, v77, (List.length (p.nums)), (recs nmC (p.nums))⟩, ⟨29, 3, (obj b6), 1, [sS ([]), .slice none 0 0, .slice none 0 0]⟩] := hM115.perm (pS (pS pR))
  have hM117 : Mem [] w w84 [⟨29, 3, (obj b6), 1, [sS ([]), .slice none 0 0, .slice none 0 0]⟩, ⟨29, 3, (obj b66), 1, [sS (p.key), v77, .slice none 0 0]⟩, ⟨68, 2, (.slice none 0 0), 0, []⟩, ⟨60, 2, v77, (List.length (p.nums)), (recs nmC (p.nums))⟩] := hM116.perm (pS (pS (pS pR)))
  have hM118 : Mem [] w w84 [⟨60, 2, v77, (List.length (p.nums)), (recs nmC (p.nums))⟩, ⟨29, 3, (obj b6), 1, [sS ([]), .slice none 0 0, .slice none 0 0]⟩, ⟨29, 3, (obj b66), 1, [sS (p.key), v77, .slice none 0 0]⟩, ⟨68, 2, (.slice none 0 0), 0, []⟩] := hM117.perm (pS (pS (pS pR)))
  have hM119 : Mem [] w w84 [⟨68, 2, (.slice none 0 0), 0, []⟩, ⟨60, 2, v77, (List.length (p.nums)), (recs nmC (p.nums))⟩, ⟨29, 3, (obj b6), 1, [sS ([]), .slice none 0 0, .slice none 0 0]⟩, ⟨29, 3, (obj b66), 1, [sS (p.key), v77, .slice none 0 0]⟩] := hM118.perm (pS (pS (pS pR)))
  exact copied_L p nv wv hs hn Z hZ hz ht v77 b6 b66 R hR (Z.length + 1) (.slice none 0 0) [] [] 0 w84 (Nat.zero_le _) rfl (fun z hz => by cases hz) ((hM119.sub (sK (sK (sK (sK sN))))).cast (by first | rfl | simp [recs])) (by omega)




set_option maxHeartbeats 1000000 in
theorem put_c {S : List Nat} {w0 w : World} (b : Nat) (v : Value) (Z : List PZ) (T : List Row) (hT : OwZ 60 68 79 T Z) (hlz : Z.length ≤ 2000000) (p : Pc) (nv wv : Value) (hp : OwP 60 68 79 T p nv wv) (hs : SmallP p) (hM : Mem S w0 w (⟨82, 1, (obj b), 1, [v]⟩ :: ⟨29, 3, v, (List.length Z), (recs pzC Z)⟩ :: T)) :
  Calls Try.prog 19 #[pq b, .agg #[sS (p.key), nv, wv]] w (fun e w' => ∃ (v' : Value) (Z' : List PZ) (T' : List Row), e = .returned (.bool (checkP p)) ∧ Z'.map PZ.pc = putK p (Z.map PZ.pc) ∧ OwZ 60 68 79 T' Z' ∧ (∀ r ∈ T, r ∈ T') ∧ Mem S w0 w' (⟨82, 1, (obj b), 1, [v']⟩ :: ⟨29, 3, v', (List.length (Z')), (recs pzC (Z'))⟩ :: T')) := by
 have hone : OneZ Z := hT.one hM (fun r_ h_ => mS (mS (h_)))
 obtain ⟨R, hR⟩ : ∃ R : Ending → World → Prop, R = (fun e w' => ∃ (v' : Value) (Z' : List PZ) (T' : List Row), e = .returned (.bool (checkP p)) ∧ Z'.map PZ.pc = putK p (Z.map PZ.pc) ∧ OwZ 60 68 79 T' Z' ∧ (∀ r ∈ T, r ∈ T') ∧ Mem S w0 w' (⟨82, 1, (obj b), 1, [v']⟩ :: ⟨29, 3, v', (List.length (Z')), (recs pzC (Z'))⟩ :: T')) := ⟨_, rfl⟩
 rw [← hR]
 refine GoS.enter (n := 27) Try.func19 (by kernel_rfl) rfl [(0, pq b), (1, .agg #[sS (p.key), nv, wv])] (by kernel_rfl) (by kernel_rfl) ?_
 obtain ⟨b1, w2, hr3, hM4⟩ := m_box (T := 29) (k := 3) (u := .agg #[sS (p.key), nv, wv]) rfl rfl hM
 have hM5 : Mem S w0 w2 (⟨29, 3, (obj b1), 1, [sS (p.key), nv, wv]⟩ :: ⟨82, 1, (obj b), 1, [v]⟩ :: ⟨29, 3, v, (List.length Z), (recs pzC Z)⟩ :: T) := hM4
 have o6 : (Instr.box 29 (.agg #[sS (p.key), nv, wv])).run Try.prog w = .ok (pq b1) w2 := hr3
 have o7 : (Instr.loadAt 29 (pq b1)).run Try.prog w2 = .ok (.agg #[sS (p.key), nv, wv]) w2 := c_loads (ys := [sS (p.key), nv, wv]) aE29 (hM5.rd 0 rfl) (cel_obj b1 0) rfl (by intro j u hj; match j, hj with | 0, hj => exact hj | 1, hj => exact hj | 2, hj => exact hj | n + 3, hj => cases hj)
 refine GoS.run [0, 3, 7, 8] [.n, .n, .u (pq b1) (w2), .n, .n, .n, .n, .n, .n, .n, .n, .h (.agg #[sS (p.key), nv, wv])] _ [.inRegion (cops (csub (cd Try.f19) [1,0,0])) [4,5,6], iC Try.f19 [1,0,1], iC Try.f19 [1,1]] [(0, pq b), (3, pq b1), (7, .bool false), (8, .agg #[sS (p.key), nv, wv])] w2 (by kernel_rfl) (.cons o6 (.cons o7 .nil)) ?_
 refine GoS.call [0, 3, 7] 13 #[.agg #[sS (p.key), nv, wv]] (some 9) [.inRegion (cops (csub (cd Try.f19) [1,0,0])) [5,6], iC Try.f19 [1,0,1], iC Try.f19 [1,1]] [(0, pq b), (3, pq b1), (7, .bool false)] (by kernel_rfl) (check_c p nv wv (hp.rd hM5 (fun r_ h_ => mS (mS (mS (h_))))) (Nat.le_trans (hs).nums (by decide)) (Nat.le_trans (hs).words (by decide))) ?_
 rintro _ w8 ⟨rfl, m9⟩
 refine ⟨_, rfl, ?_⟩
 have hM10 : Mem S w0 w8 (⟨29, 3, (obj b1), 1, [sS (p.key), nv, wv]⟩ :: ⟨82, 1, (obj b), 1, [v]⟩ :: ⟨29, 3, v, (List.length Z), (recs pzC Z)⟩ :: T) := Mem.join (R := []) hM5 m9
 refine GoS.run [0, 3, 11] [.n, .n, .n] _ [iC Try.f19 [1,0,1], iC Try.f19 [1,1]] [(0, pq b), (3, pq b1), (11, .bool (!(checkP p)))] w8 (by kernel_rfl) .nil ?_
 refine GoS.cond (!(checkP p)) [iC Try.f19 [1,0,1,0], iC Try.f19 [1,1]] [iC Try.f19 [1,0,1,1], iC Try.f19 [1,1]] (by kernel_rfl) (fun h11 => ?_) (fun h11 => ?_)
 ·
  have hM12 := hM10.sub (sD (sK (sK sR)))
  refine GoS.run [4] [.n, .n, .n, .n] _ [iC Try.f19 [1,0,1,0,1], iC Try.f19 [1,1]] [(4, .bool false)] w8 (by kernel_rfl) .nil ?_
  refine GoS.ret (fn := Try.f19) (v := (.bool false)) Try.func19 (by kernel_rfl) ?_
  rw [hR]
  have hc : checkP p = false := by simpa using h11
  exact ⟨v, Z, T, ret_bool hc.symm, by unfold putK; rw [hc]; rfl, hT, fun r h => h, hM12.sub (sK (sK sR))⟩
 ·
  refine GoS.run [0, 3] [.n] _ [iC Try.f19 [1,1]] [(0, pq b), (3, pq b1)] w8 (by kernel_rfl) .nil ?_
  have o13 : (Instr.loadAt 9 (pq b1)).run Try.prog w8 = .ok (sS (p.key)) w8 := c_load pE9 (hM10.rd 0 rfl) (cel_obj b1 0) rfl
  refine GoS.run [0, 3, 12, 14] [.n, .n, .n, .n, .h (sS (p.key))] _ [.inRegion (cops (csub (cd Try.f19) [1,1,0])) [3], iC Try.f19 [1,1,1]] [(0, pq b), (3, pq b1), (12, pq b), (14, sS (p.key))] w8 (by kernel_rfl) (.cons o13 .nil) ?_
  have hM14 : Mem S w0 w8 (⟨29, 3, v, (List.length Z), (recs pzC Z)⟩ :: ⟨29, 3, (obj b1), 1, [sS (p.key), nv, wv]⟩ :: ⟨82, 1, (obj b), 1, [v]⟩ :: T) := hM10.perm (pS (pS pR))
  have hM15 : Mem S w0 w8 (⟨82, 1, (obj b), 1, [v]⟩ :: ⟨29, 3, v, (List.length Z), (recs pzC Z)⟩ :: ⟨29, 3, (obj b1), 1, [sS (p.key), nv, wv]⟩ :: T) := hM14.perm (pS (pS pR))
  refine GoS.call [0, 3] 15 #[pq b, sS (p.key)] (some 15) [.inRegion (cops (csub (cd Try.f19) [1,1,0])) [], iC Try.f19 [1,1,1]] [(0, pq b), (3, pq b1)] (by kernel_rfl) (drop_c b (p.key) v Z (⟨29, 3, (obj b1), 1, [sS (p.key), nv, wv]⟩ :: T) hone hM15) ?_
  rintro _ w16 ⟨v17, rfl, hM18⟩
  refine ⟨_, rfl, ?_⟩
  refine GoS.run [0, 3] [.n, .n] _ [iC Try.f19 [1,1,1,0], iC Try.f19 [1,1,1,1]] [(0, pq b), (3, pq b1)] w16 (by kernel_rfl) .nil ?_
  obtain ⟨w19, hw20⟩ : ∃ w_, (w16).drewN 1 = w_ := ⟨_, rfl⟩
  refine GoS.held (fun W_ => Mem S w0 W_ [⟨29, 3, (obj b1), 1, [sS (p.key), nv, wv]⟩]) [] 4 (by kernel_rfl) (by kernel_rfl) 12 (by kernel_rfl) ?_
  rw [hw20]
  have hM21 : Mem S w0 w19 (⟨82, 1, (obj b), 1, [v17]⟩ :: ⟨29, 3, v17, (List.length (dropZ (p.key) Z)), (recs pzC (dropZ (p.key) Z))⟩ :: ⟨29, 3, (obj b1), 1, [sS (p.key), nv, wv]⟩ :: T) := hw20 ▸ hM18.ext (Kept.drewN _ _ 1)
  have hS22 := hM21.sub (sD (sD (sK sN)))
  refine GoH.takeV 0 (pq b) (pq b) (some 16) (fun W_ => by kernel_rfl) rfl hS22 ?_
  refine GoH.takeV 1 (pq b) (pq b) (some 17) (fun W_ => by kernel_rfl) rfl hS22 ?_
  refine GoH.takeV 2 (pq b) (pq b) (some 18) (fun W_ => by kernel_rfl) rfl hS22 ?_
  refine GoH.takeV 3 (pq b) (pq b) (some 19) (fun W_ => by kernel_rfl) rfl hS22 ?_
  refine GoH.takeF 5 (.agg #[sS (p.key), nv, wv]) (fun W_ => (Instr.loadAt 29 (pq b1)).run Try.prog W_ = .ok (.agg #[sS (p.key), nv, wv]) W_) (some 21) (fun W_ => by kernel_rfl) (fun W_ hW_ => c_loads (ys := [sS (p.key), nv, wv]) aE29 (hW_.rd 0 rfl) (cel_obj b1 0) rfl (by intro j u hj; match j, hj with | 0, hj => exact hj | 1, hj => exact hj | 2, hj => exact hj | n + 3, hj => cases hj)) hS22 ?_
  refine GoH.each [4, 6] (by kernel_rfl) (by kernel_rfl) ⟨?_, ?_, trivial⟩
  ·
   have hS23 := hM21.sub (sD (sD (sK sN)))
   refine GoI.stepF 4 (v17) (w19) ((Instr.loadAt 43 (pq b)).run Try.prog w19 = .ok (v17) w19) (some 20) (by kernel_rfl) (c_load pE43 (hM21.rd 0 rfl) (cel_obj b 0) rfl) (.inr hS23) ?_
   refine GoH.callF 6 41 #[.agg #[sS (p.key), nv, wv]] (some 22) (by kernel_rfl) (copied_c p nv wv hs (hp.rd hM21 (fun r_ h_ => mS (mS (mS (h_)))))) ?_
   rintro _ w24 ⟨v25, v26, T27, rfl, ho28, m29⟩
   have hM30 : Mem S w0 w24 (⟨82, 1, (obj b), 1, [v17]⟩ :: ⟨29, 3, v17, (List.length (dropZ (p.key) Z)), (recs pzC (dropZ (p.key) Z))⟩ :: ⟨29, 3, (obj b1), 1, [sS (p.key), nv, wv]⟩ :: (T ++ T27)) := joinT (R := [⟨82, 1, (obj b), 1, [v17]⟩, ⟨29, 3, v17, (List.length (dropZ (p.key) Z)), (recs pzC (dropZ (p.key) Z))⟩, ⟨29, 3, (obj b1), 1, [sS (p.key), nv, wv]⟩]) (A := T) hM21 m29
   have hS31 := hM30.sub (sD (sD (sK sN)))
   refine ⟨.agg #[sS (p.key), v25, v26], rfl, .inr hS31, ?_⟩
   obtain ⟨v32, w33, hr34, hM35⟩ := m_lit sT43 hM30 (n := 1) (parts := #[(0, .agg #[sS (p.key), v25, v26])]) (cs := [sS (p.key), v25, v26]) (by decide) (by kernel_rfl) rfl
   have hS36 := hM35.sub (sD (sD (sD (sK sN))))
   refine GoH.stepF 7 (v32) (w33) ((Instr.buildSlice 43 1 #[(0, .agg #[sS (p.key), v25, v26])]).run Try.prog w24 = .ok v32 w33) (some 23) (by kernel_rfl) (hr34) (.inr hS36) ?_
   obtain ⟨v37, w38, hr39, hM40⟩ := m_append sT43 hM35 2 rfl (hM35.rd 0 rfl) (by intro u hu; simp only [List.mem_cons, List.not_mem_nil, or_false] at hu; rcases hu with rfl | rfl | rfl; exact rfl; exact (rdp_one (ho28.rd hM35 (fun r_ h_ => mS (mS (mS (mS (List.mem_append_right _ (h_)))))))).1.1; exact (rdp_one (ho28.rd hM35 (fun r_ h_ => mS (mS (mS (mS (List.mem_append_right _ (h_)))))))).2.1) (by first | omega | (dsimp only; omega) | (have hz1 : (dropZ p.key Z).length ≤ Z.length := (List.eraseIdx_sublist Z _).length_le; (try dsimp only); omega)) (by first | omega | (dsimp only; omega) | (have hz1 : (dropZ p.key Z).length ≤ Z.length := (List.eraseIdx_sublist Z _).length_le; (try dsimp only); omega)) 43
   have hM41 : Mem S w0 w38 (⟨29, 3, v32, 1, [sS (p.key), v25, v26]⟩ :: ⟨82, 1, (obj b), 1, [v17]⟩ :: ⟨29, 3, v37, (List.length ((dropZ (p.key) Z) ++ ([(PZ.mk p v25 v26)] : List PZ))), (recs pzC ((dropZ (p.key) Z) ++ ([(PZ.mk p v25 v26)] : List PZ)))⟩ :: ⟨29, 3, (obj b1), 1, [sS (p.key), nv, wv]⟩ :: (T ++ T27)) := hM40.cast (by simp [ivals, svals, bvals, nvals, u8s, Nat.add_assoc, recs, pzC])
   have hS42 := hM41.sub (sD (sD (sD (sK sN))))
   refine GoH.stepF 8 (v37) (w38) ((Builtin.append_ #[43, 43] 43 #[v17, v32]).run Try.prog w33 = .ok v37 w38) (some 24) (by kernel_rfl) (hr39) (.inr hS42) ?_
   refine GoH.takeV 9 (pq b) (pq b) (some 25) (fun W_ => by kernel_rfl) rfl hS42 ?_
   refine GoH.takeV 10 (pq b) (pq b) (some 26) (fun W_ => by kernel_rfl) rfl hS42 ?_
   obtain ⟨w43, hr44, hM45⟩ := c_store (u := v37) (by kernel_rfl) hM41 1 rfl (cel_obj b 0) (by decide) (rd_one (hM41.rd 2 rfl)) (rd_cells (hM41.rd 2 rfl))
   have hM46 : Mem S w0 w43 (⟨29, 3, v32, 1, [sS (p.key), v25, v26]⟩ :: ⟨82, 1, (obj b), 1, [v37]⟩ :: ⟨29, 3, v37, (List.length ((dropZ (p.key) Z) ++ ([(PZ.mk p v25 v26)] : List PZ))), (recs pzC ((dropZ (p.key) Z) ++ ([(PZ.mk p v25 v26)] : List PZ)))⟩ :: ⟨29, 3, (obj b1), 1, [sS (p.key), nv, wv]⟩ :: (T ++ T27)) := hM45
   have hS47 := hM46.sub (sD (sD (sD (sK sN))))
   refine GoH.stepF 11 (undef) (w43) ((Instr.storeAt 43 (pq b) (v37)).run Try.prog w38 = .ok () w43 ∧ undef = undef) none (by kernel_rfl) (⟨hr44, rfl⟩) (.inr hS47) ?_
   refine GoH.done [] [] (by kernel_rfl) (by kernel_rfl) ?_
   have hM48 := hM46.sub (sD (sK (sK (sD sR))))
   refine GoS.run [4] [.n, .n, .n, .n] _ [iC Try.f19 [1,1,1,1,1]] [(4, .bool true)] w43 (by kernel_rfl) .nil ?_
   refine GoS.ret (fn := Try.f19) (v := (.bool true)) Try.func19 (by kernel_rfl) ?_
   rw [hR]
   have hc : checkP p = true := by simpa using h11
   exact ⟨_, ((dropZ (p.key) Z) ++ ([(PZ.mk p v25 v26)] : List PZ)), T ++ T27, ret_bool hc.symm, by rw [List.map_append, dropZ_pc]; unfold putK; rw [if_pos hc]; rfl, OwZ.snoc (fun z hz => (hT z (dropZ_sub z hz)).mono (fun r h => List.mem_append_left _ h)) (ho28.mono (fun r h => List.mem_append_right _ h)), fun r h => List.mem_append_left _ h, hM48.sub (sK (sK sR))⟩
  ·
   refine GoI.callF 6 41 #[.agg #[sS (p.key), nv, wv]] (some 22) (by kernel_rfl) (copied_c p nv wv hs (hp.rd hM21 (fun r_ h_ => mS (mS (mS (h_)))))) ?_
   rintro _ w49 ⟨v50, v51, T52, rfl, ho53, m54⟩
   have hM55 : Mem S w0 w49 (⟨82, 1, (obj b), 1, [v17]⟩ :: ⟨29, 3, v17, (List.length (dropZ (p.key) Z)), (recs pzC (dropZ (p.key) Z))⟩ :: ⟨29, 3, (obj b1), 1, [sS (p.key), nv, wv]⟩ :: (T ++ T52)) := joinT (R := [⟨82, 1, (obj b), 1, [v17]⟩, ⟨29, 3, v17, (List.length (dropZ (p.key) Z)), (recs pzC (dropZ (p.key) Z))⟩, ⟨29, 3, (obj b1), 1, [sS (p.key), nv, wv]⟩]) (A := T) hM21 m54
   have hS56 := hM55.sub (sD (sD (sK sN)))
   refine ⟨.agg #[sS (p.key), v50, v51], rfl, .inr hS56, ?_⟩
   refine GoH.each [4, 7] (by kernel_rfl) (by kernel_rfl) ⟨?_, ?_, trivial⟩
   ·
    have hS57 := hM55.sub (sD (sD (sK sN)))
    refine GoI.stepF 4 (v17) (w49) ((Instr.loadAt 43 (pq b)).run Try.prog w49 = .ok (v17) w49) (some 20) (by kernel_rfl) (c_load pE43 (hM55.rd 0 rfl) (cel_obj b 0) rfl) (.inr hS57) ?_
    obtain ⟨v58, w59, hr60, hM61⟩ := m_lit sT43 hM55 (n := 1) (parts := #[(0, .agg #[sS (p.key), v50, v51])]) (cs := [sS (p.key), v50, v51]) (by decide) (by kernel_rfl) rfl
    have hS62 := hM61.sub (sD (sD (sD (sK sN))))
    refine GoH.stepF 7 (v58) (w59) ((Instr.buildSlice 43 1 #[(0, .agg #[sS (p.key), v50, v51])]).run Try.prog w49 = .ok v58 w59) (some 23) (by kernel_rfl) (hr60) (.inr hS62) ?_
    obtain ⟨v63, w64, hr65, hM66⟩ := m_append sT43 hM61 2 rfl (hM61.rd 0 rfl) (by intro u hu; simp only [List.mem_cons, List.not_mem_nil, or_false] at hu; rcases hu with rfl | rfl | rfl; exact rfl; exact (rdp_one (ho53.rd hM61 (fun r_ h_ => mS (mS (mS (mS (List.mem_append_right _ (h_)))))))).1.1; exact (rdp_one (ho53.rd hM61 (fun r_ h_ => mS (mS (mS (mS (List.mem_append_right _ (h_)))))))).2.1) (by first | omega | (dsimp only; omega) | (have hz1 : (dropZ p.key Z).length ≤ Z.length := (List.eraseIdx_sublist Z _).length_le; (try dsimp only); omega)) (by first | omega | (dsimp only; omega) | (have hz1 : (dropZ p.key Z).length ≤ Z.length := (List.eraseIdx_sublist Z _).length_le; (try dsimp only); omega)) 43
    have hM67 : Mem S w0 w64 (⟨29, 3, v58, 1, [sS (p.key), v50, v51]⟩ :: ⟨82, 1, (obj b), 1, [v17]⟩ :: ⟨29, 3, v63, (List.length ((dropZ (p.key) Z) ++ ([(PZ.mk p v50 v51)] : List PZ))), (recs pzC ((dropZ (p.key) Z) ++ ([(PZ.mk p v50 v51)] : List PZ)))⟩ :: ⟨29, 3, (obj b1), 1, [sS (p.key), nv, wv]⟩ :: (T ++ T52)) := hM66.cast (by simp [ivals, svals, bvals, nvals, u8s, Nat.add_assoc, recs, pzC])
    have hS68 := hM67.sub (sD (sD (sD (sK sN))))
    refine GoH.stepF 8 (v63) (w64) ((Builtin.append_ #[43, 43] 43 #[v17, v58]).run Try.prog w59 = .ok v63 w64) (some 24) (by kernel_rfl) (hr65) (.inr hS68) ?_
    refine GoH.takeV 9 (pq b) (pq b) (some 25) (fun W_ => by kernel_rfl) rfl hS68 ?_
    refine GoH.takeV 10 (pq b) (pq b) (some 26) (fun W_ => by kernel_rfl) rfl hS68 ?_
    obtain ⟨w69, hr70, hM71⟩ := c_store (u := v63) (by kernel_rfl) hM67 1 rfl (cel_obj b 0) (by decide) (rd_one (hM67.rd 2 rfl)) (rd_cells (hM67.rd 2 rfl))
    have hM72 : Mem S w0 w69 (⟨29, 3, v58, 1, [sS (p.key), v50, v51]⟩ :: ⟨82, 1, (obj b), 1, [v63]⟩ :: ⟨29, 3, v63, (List.length ((dropZ (p.key) Z) ++ ([(PZ.mk p v50 v51)] : List PZ))), (recs pzC ((dropZ (p.key) Z) ++ ([(PZ.mk p v50 v51)] : List PZ)))⟩ :: ⟨29, 3, (obj b1), 1, [sS (p.key), nv, wv]⟩ :: (T ++ T52)) := hM71
    have hS73 := hM72.sub (sD (sD (sD (sK sN))))
    refine GoH.stepF 11 (undef) (w69) ((Instr.storeAt 43 (pq b) (v63)).run Try.prog w64 = .ok () w69 ∧ undef = undef) none (by kernel_rfl) (⟨hr70, rfl⟩) (.inr hS73) ?_
    refine GoH.done [] [] (by kernel_rfl) (by kernel_rfl) ?_
    have hM74 := hM72.sub (sD (sK (sK (sD sR))))
    refine GoS.run [4] [.n, .n, .n, .n] _ [iC Try.f19 [1,1,1,1,1]] [(4, .bool true)] w69 (by kernel_rfl) .nil ?_
    refine GoS.ret (fn := Try.f19) (v := (.bool true)) Try.func19 (by kernel_rfl) ?_
    rw [hR]
    have hc : checkP p = true := by simpa using h11
    exact ⟨_, ((dropZ (p.key) Z) ++ ([(PZ.mk p v50 v51)] : List PZ)), T ++ T52, ret_bool hc.symm, by rw [List.map_append, dropZ_pc]; unfold putK; rw [if_pos hc]; rfl, OwZ.snoc (fun z hz => (hT z (dropZ_sub z hz)).mono (fun r h => List.mem_append_left _ h)) (ho53.mono (fun r h => List.mem_append_right _ h)), fun r h => List.mem_append_left _ h, hM74.sub (sK (sK sR))⟩
   ·
    obtain ⟨v75, w76, hr77, hM78⟩ := m_lit sT43 hM55 (n := 1) (parts := #[(0, .agg #[sS (p.key), v50, v51])]) (cs := [sS (p.key), v50, v51]) (by decide) (by kernel_rfl) rfl
    have hS79 := hM78.sub (sD (sD (sD (sK sN))))
    refine GoI.stepF 7 (v75) (w76) ((Instr.buildSlice 43 1 #[(0, .agg #[sS (p.key), v50, v51])]).run Try.prog w49 = .ok v75 w76) (some 23) (by kernel_rfl) (hr77) (.inr hS79) ?_
    have hS80 := hM78.sub (sD (sD (sD (sK sN))))
    refine GoH.stepF 4 (v17) (w76) ((Instr.loadAt 43 (pq b)).run Try.prog w76 = .ok (v17) w76) (some 20) (by kernel_rfl) (c_load pE43 (hM78.rd 1 rfl) (cel_obj b 0) rfl) (.inr hS80) ?_
    obtain ⟨v81, w82, hr83, hM84⟩ := m_append sT43 hM78 2 rfl (hM78.rd 0 rfl) (by intro u hu; simp only [List.mem_cons, List.not_mem_nil, or_false] at hu; rcases hu with rfl | rfl | rfl; exact rfl; exact (rdp_one (ho53.rd hM78 (fun r_ h_ => mS (mS (mS (mS (List.mem_append_right _ (h_)))))))).1.1; exact (rdp_one (ho53.rd hM78 (fun r_ h_ => mS (mS (mS (mS (List.mem_append_right _ (h_)))))))).2.1) (by first | omega | (dsimp only; omega) | (have hz1 : (dropZ p.key Z).length ≤ Z.length := (List.eraseIdx_sublist Z _).length_le; (try dsimp only); omega)) (by first | omega | (dsimp only; omega) | (have hz1 : (dropZ p.key Z).length ≤ Z.length := (List.eraseIdx_sublist Z _).length_le; (try dsimp only); omega)) 43
    have hM85 : Mem S w0 w82 (⟨29, 3, v75, 1, [sS (p.key), v50, v51]⟩ :: ⟨82, 1, (obj b), 1, [v17]⟩ :: ⟨29, 3, v81, (List.length ((dropZ (p.key) Z) ++ ([(PZ.mk p v50 v51)] : List PZ))), (recs pzC ((dropZ (p.key) Z) ++ ([(PZ.mk p v50 v51)] : List PZ)))⟩ :: ⟨29, 3, (obj b1), 1, [sS (p.key), nv, wv]⟩ :: (T ++ T52)) := hM84.cast (by simp [ivals, svals, bvals, nvals, u8s, Nat.add_assoc, recs, pzC])
    have hS86 := hM85.sub (sD (sD (sD (sK sN))))
    refine GoH.stepF 8 (v81) (w82) ((Builtin.append_ #[43, 43] 43 #[v17, v75]).run Try.prog w76 = .ok v81 w82) (some 24) (by kernel_rfl) (hr83) (.inr hS86) ?_
    refine GoH.takeV 9 (pq b) (pq b) (some 25) (fun W_ => by kernel_rfl) rfl hS86 ?_
    refine GoH.takeV 10 (pq b) (pq b) (some 26) (fun W_ => by kernel_rfl) rfl hS86 ?_
    obtain ⟨w87, hr88, hM89⟩ := c_store (u := v81) (by kernel_rfl) hM85 1 rfl (cel_obj b 0) (by decide) (rd_one (hM85.rd 2 rfl)) (rd_cells (hM85.rd 2 rfl))
    have hM90 : Mem S w0 w87 (⟨29, 3, v75, 1, [sS (p.key), v50, v51]⟩ :: ⟨82, 1, (obj b), 1, [v81]⟩ :: ⟨29, 3, v81, (List.length ((dropZ (p.key) Z) ++ ([(PZ.mk p v50 v51)] : List PZ))), (recs pzC ((dropZ (p.key) Z) ++ ([(PZ.mk p v50 v51)] : List PZ)))⟩ :: ⟨29, 3, (obj b1), 1, [sS (p.key), nv, wv]⟩ :: (T ++ T52)) := hM89
    have hS91 := hM90.sub (sD (sD (sD (sK sN))))
    refine GoH.stepF 11 (undef) (w87) ((Instr.storeAt 43 (pq b) (v81)).run Try.prog w82 = .ok () w87 ∧ undef = undef) none (by kernel_rfl) (⟨hr88, rfl⟩) (.inr hS91) ?_
    refine GoH.done [] [] (by kernel_rfl) (by kernel_rfl) ?_
    have hM92 := hM90.sub (sD (sK (sK (sD sR))))
    refine GoS.run [4] [.n, .n, .n, .n] _ [iC Try.f19 [1,1,1,1,1]] [(4, .bool true)] w87 (by kernel_rfl) .nil ?_
    refine GoS.ret (fn := Try.f19) (v := (.bool true)) Try.func19 (by kernel_rfl) ?_
    rw [hR]
    have hc : checkP p = true := by simpa using h11
    exact ⟨_, ((dropZ (p.key) Z) ++ ([(PZ.mk p v50 v51)] : List PZ)), T ++ T52, ret_bool hc.symm, by rw [List.map_append, dropZ_pc]; unfold putK; rw [if_pos hc]; rfl, OwZ.snoc (fun z hz => (hT z (dropZ_sub z hz)).mono (fun r h => List.mem_append_left _ h)) (ho53.mono (fun r h => List.mem_append_right _ h)), fun r h => List.mem_append_left _ h, hM92.sub (sK (sK sR))⟩



abbrev uK0 : List Nat := [1,1,0,1,0,0]
abbrev uK1 : List Nat := [1,1,0,1,0,0,1,1]
set_option maxHeartbeats 1000000 in
theorem pieces_L {w0 : World} (b : Nat) (v : Value) (Z : List PZ) (hb : Rd w0 1 (obj b) 1 [v]) (hv : Rd w0 3 v Z.length (recs pzC Z)) (hz : ∀ z ∈ Z, RdP w0 z.pc z.nums z.words) (hs : ∀ z ∈ Z, SmallP z.pc) (hlz : Z.length ≤ 2000000) (R : Ending → World → Prop) (hR : R = (fun e w' => ∃ (v' : Value) (Y : List PZ) (T : List Row), e = .returned v' ∧ Y.map PZ.pc = Z.map PZ.pc ∧ OwZ 60 68 79 T Y ∧ Mem [] w0 w' (⟨29, 3, v', (List.length Y), (recs pzC Y)⟩ :: T))) : ∀ (N : Nat) (v' : Value) (Y : List PZ) (T : List Row) (i : Nat) (w : World) (hi : i ≤ Z.length) (hY : Y.map PZ.pc = (Z.take i).map PZ.pc) (hT : OwZ 60 68 79 T Y) (hM : Mem [] w0 w (⟨29, 3, v', (List.length Y), (recs pzC Y)⟩ :: T)) (hN : Z.length - i < N), GoS Try.prog 22 R 23 [iC Try.f22 uK0, iL Try.f22 uK0, .inBlock 0, iC Try.f22 [1,1,1]] [(0, pq b), (3, v'), (6, iN (List.length Z)), (7, iN i)] w := by
 intro N
 induction N with
 | zero => intro v' Y T i w hi hY hT hM hN; exact absurd hN (Nat.not_lt_zero _)
 | succ N ih =>
  intro v' Y T i w hi hY hT hM hN
  have hone : OneZ Z := fun z hq => ⟨(rdp_one (hz z hq)).1, (rdp_one (hz z hq)).2⟩
  have hYl : Y.length = i := by have z := congrArg List.length hY; simp only [List.length_map, List.length_take] at z; omega
  refine GoS.run [0, 3, 6, 7, 8] [.n, .n, .n, .n, .n] _ [iC Try.f22 [1,1,0,1,0,0,1,0], iC Try.f22 uK1, iL Try.f22 uK0, .inBlock 0, iC Try.f22 [1,1,1]] [(0, pq b), (3, v'), (6, iN (List.length Z)), (7, iN i), (8, .bool (decide (((i : Nat) : Int) < (((List.length Z) : Nat) : Int))))] w (by kernel_rfl) .nil ?_
  refine GoS.cond (decide (((i : Nat) : Int) < (((List.length Z) : Nat) : Int))) [iC Try.f22 [1,1,0,1,0,0,1,0,0], iC Try.f22 uK1, iL Try.f22 uK0, .inBlock 0, iC Try.f22 [1,1,1]] [iC Try.f22 [1,1,0,1,0,0,1,0,1], iC Try.f22 uK1, iL Try.f22 uK0, .inBlock 0, iC Try.f22 [1,1,1]] (by kernel_rfl) (fun h1 => ?_) (fun h1 => ?_)
  ·
   have h1p : ((i : Nat) : Int) < (((List.length Z) : Nat) : Int) := of_decide_eq_true h1
   refine GoS.run [0, 3, 6, 7] [.n] _ [iC Try.f22 uK1, iL Try.f22 uK0, .inBlock 0, iC Try.f22 [1,1,1]] [(0, pq b), (3, v'), (6, iN (List.length Z)), (7, iN i)] w (by kernel_rfl) .nil ?_
   have o5 : (Instr.loadAt 43 (pq b)).run Try.prog w = .ok (v) w := c_load pE43 (hb.kept0 hM.kept) (cel_obj b 0) rfl
   obtain ⟨p2, hp3, hq4⟩ := rd_at (i := ((i : Nat) : Int)) sT43 (hv.kept0 hM.kept) i (by omega) (by first | omega | (dsimp only; omega))
   have o6 : (Instr.indexAt 43 (v) (iN i)).run Try.prog w = .ok (.pointer (some p2)) w := hq4 _ _
   have o7 : (Instr.loadAt 29 (.pointer (some p2))).run Try.prog w = .ok (.agg #[sS ((List.getD Z i pz).pc.key), ((List.getD Z i pz).nums), ((List.getD Z i pz).words)]) w := r_loads (f := pzC) (l := Z) aE29 (hv.kept0 hM.kept) pzC_len hp3 (by first | omega | (dsimp only; omega)) pz
   refine GoS.run [0, 6, 7, 10, 17] [.n, .n, .n, .n, .n, .n, .n, .n, .n, .n, .n, .n, .h (v), .n, .h (.pointer (some p2)), .h (.agg #[sS ((List.getD Z i pz).pc.key), ((List.getD Z i pz).nums), ((List.getD Z i pz).words)])] _ [.inRegion (cops (csub (cd Try.f22) [1,1,0,1,0,0,1,1,0,0,1])) [8,9,10,11], .inBlock 1, iC Try.f22 [1,1,0,1,0,0,1,1,1], iL Try.f22 uK0, .inBlock 0, iC Try.f22 [1,1,1]] [(0, pq b), (6, iN (List.length Z)), (7, iN i), (10, v'), (17, .agg #[sS ((List.getD Z i pz).pc.key), ((List.getD Z i pz).nums), ((List.getD Z i pz).words)])] w (by kernel_rfl) (.cons o5 (.cons o6 (.cons o7 .nil))) ?_
   refine GoS.call [0, 6, 7, 10] 41 #[.agg #[sS ((List.getD Z i pz).pc.key), ((List.getD Z i pz).nums), ((List.getD Z i pz).words)]] (some 18) [.inRegion (cops (csub (cd Try.f22) [1,1,0,1,0,0,1,1,0,0,1])) [9,10,11], .inBlock 1, iC Try.f22 [1,1,0,1,0,0,1,1,1], iL Try.f22 uK0, .inBlock 0, iC Try.f22 [1,1,1]] [(0, pq b), (6, iN (List.length Z)), (7, iN i), (10, v')] (by kernel_rfl) (copied_c ((List.getD Z i pz).pc) ((List.getD Z i pz).nums) ((List.getD Z i pz).words) (hs _ (getD_mem (i := i) (d := pz) (by omega))) (((hz _ (getD_mem (i := i) (d := pz) (by omega))).kept hM.kept))) ?_
   rintro _ w8 ⟨v9, v10, T11, rfl, ho12, m13⟩
   refine ⟨_, rfl, ?_⟩
   have hM14 : Mem [] w0 w8 (⟨29, 3, v', (List.length Y), (recs pzC Y)⟩ :: (T ++ T11)) := joinT (R := [⟨29, 3, v', (List.length Y), (recs pzC Y)⟩]) (A := T) hM m13
   obtain ⟨v15, w16, hr17, hM18⟩ := m_lit sT43 hM14 (n := 1) (parts := #[(0, .agg #[sS ((List.getD Z i pz).pc.key), v9, v10])]) (cs := [sS ((List.getD Z i pz).pc.key), v9, v10]) (by decide) (by kernel_rfl) rfl
   obtain ⟨v19, w20, hr21, hM22⟩ := m_append sT43 hM18 1 rfl (hM18.rd 0 rfl) (by intro u hu; simp only [List.mem_cons, List.not_mem_nil, or_false] at hu; rcases hu with rfl | rfl | rfl; exact rfl; exact (rdp_one (ho12.rd hM18 (fun r_ h_ => mS (mS (List.mem_append_right _ (h_)))))).1.1; exact (rdp_one (ho12.rd hM18 (fun r_ h_ => mS (mS (List.mem_append_right _ (h_)))))).2.1) (by first | omega | (dsimp only; omega)) (by first | omega | (dsimp only; omega)) 43
   have hM23 : Mem [] w0 w20 (⟨29, 3, v15, 1, [sS ((List.getD Z i pz).pc.key), v9, v10]⟩ :: ⟨29, 3, v19, (List.length (Y ++ ([(PZ.mk ((List.getD Z i pz).pc) v9 v10)] : List PZ))), (recs pzC (Y ++ ([(PZ.mk ((List.getD Z i pz).pc) v9 v10)] : List PZ)))⟩ :: (T ++ T11)) := hM22.cast (by simp [ivals, svals, bvals, nvals, u8s, Nat.add_assoc, recs, pzC])
   have o24 : (binOp .add 3 (iN i) (.int .i64 1)).run Try.prog w20 = .ok (iN (i + 1)) w20 := f_add (by rw [show ((i : Nat) : Int) + 1 = (((i + 1) : Nat) : Int) by omega]; exact IntWalk.i64_in _ (by omega))
   have hM25 := hM23.sub (sD (sK sR))
   refine GoS.run [0, 3, 6, 7] [.u (v15) (w16), .u (v19) (w20), .n, .n, .n, .n, .h (iN (i + 1)), .n, .n, .n] _ [iC Try.f22 uK0, iL Try.f22 uK0, .inBlock 0, iC Try.f22 [1,1,1]] [(0, pq b), (3, v19), (6, iN (List.length Z)), (7, iN (i + 1))] w20 (by kernel_rfl) (.cons hr17 (.cons hr21 (.cons o24 .nil))) ?_
   exact ih _ (Y ++ ([(PZ.mk ((List.getD Z i pz).pc) v9 v10)] : List PZ)) (T ++ T11) (i + 1) _ (by omega) (pz_snoc hY (by omega)) (OwZ.snoc (hT.mono (fun r h => List.mem_append_left _ h)) (ho12.mono (fun r h => List.mem_append_right _ h))) (hM25.sub (sK sR)) (by omega)
  ·
   have h1p : ¬ (((i : Nat) : Int) < (((List.length Z) : Nat) : Int)) := of_decide_eq_false h1
   refine GoS.run [2] [.n, .n, .n, .n, .n, .n] _ [iC Try.f22 [1,1,1,1]] [(2, v')] w (by kernel_rfl) .nil ?_
   refine GoS.ret (fn := Try.f22) (v := (v')) Try.func22 (by kernel_rfl) ?_
   rw [hR]
   exact ⟨_, Y, T, rfl, by rw [hY, take_all' (by omega)], hT, hM.sub (sK sR)⟩

set_option maxHeartbeats 400000 in
theorem pieces_c {w : World} (b : Nat) (v : Value) (Z : List PZ) (hb : Rd w 1 (obj b) 1 [v]) (hv : Rd w 3 v Z.length (recs pzC Z)) (hz : ∀ z ∈ Z, RdP w z.pc z.nums z.words) (hs : ∀ z ∈ Z, SmallP z.pc) (hlz : Z.length ≤ 2000000) :
  Calls Try.prog 22 #[pq b] w (fun e w' => ∃ (v' : Value) (Y : List PZ) (T : List Row), e = .returned v' ∧ Y.map PZ.pc = Z.map PZ.pc ∧ OwZ 60 68 79 T Y ∧ Mem [] w w' (⟨29, 3, v', (List.length Y), (recs pzC Y)⟩ :: T)) := by
 have hone : OneZ Z := fun z hq => ⟨(rdp_one (hz z hq)).1, (rdp_one (hz z hq)).2⟩
 obtain ⟨R, hR⟩ : ∃ R : Ending → World → Prop, R = (fun e w' => ∃ (v' : Value) (Y : List PZ) (T : List Row), e = .returned v' ∧ Y.map PZ.pc = Z.map PZ.pc ∧ OwZ 60 68 79 T Y ∧ Mem [] w w' (⟨29, 3, v', (List.length Y), (recs pzC Y)⟩ :: T)) := ⟨_, rfl⟩
 rw [← hR]
 refine GoS.enter (n := 23) Try.func22 (by kernel_rfl) rfl [(0, pq b)] (by kernel_rfl) (by kernel_rfl) ?_
 have hM0 := Mem.start w
 refine GoS.run [0, 3, 5] [.n, .n, .n, .n, .n, .n, .n, .n, .n, .n, .n, .n] _ [.inRegion (cops (csub (cd Try.f22) [1,1,0,0])) [1,2], iC Try.f22 [1,1,0,1], iC Try.f22 [1,1,1]] [(0, pq b), (3, .slice none 0 0), (5, pq b)] w (by kernel_rfl) .nil ?_
 refine GoS.call [0, 3] 23 #[pq b] (some 6) [.inRegion (cops (csub (cd Try.f22) [1,1,0,0])) [2], iC Try.f22 [1,1,0,1], iC Try.f22 [1,1,1]] [(0, pq b), (3, .slice none 0 0)] (by kernel_rfl) (len_c b [] v Z (hb.kept0 hM0.kept) (hv.kept0 hM0.kept) hone) ?_
 rintro _ w1 ⟨rfl, m2⟩
 refine ⟨_, rfl, ?_⟩
 have hM3 : Mem [] w w1 [] := Mem.join (R := []) hM0 m2
 refine GoS.run [0, 3, 6, 7] [.n, .n, .n, .n] _ [iC Try.f22 uK0, iL Try.f22 uK0, .inBlock 0, iC Try.f22 [1,1,1]] [(0, pq b), (3, .slice none 0 0), (6, iN (List.length Z)), (7, .int .i64 0)] w1 (by kernel_rfl) .nil ?_
 have hM4 := hM3.nilrow 29 3
 exact pieces_L b v Z hb hv hz hs hlz R hR (Z.length + 1) (.slice none 0 0) [] [] 0 w1 (Nat.zero_le _) rfl (fun z hz => by cases hz) ((hM4.sub (sK sN)).cast (by first | rfl | simp [recs])) (by omega)

set_option maxHeartbeats 400000 in
theorem pieces0_c {w : World} :
  Calls Try.prog 22 #[.pointer none] w (fun e w' => e = .returned (.slice none 0 0) ∧ Mem [] w w' []) := by
 obtain ⟨R, hR⟩ : ∃ R : Ending → World → Prop, R = (fun e w' => e = .returned (.slice none 0 0) ∧ Mem [] w w' []) := ⟨_, rfl⟩
 rw [← hR]
 refine GoS.enter (n := 23) Try.func22 (by kernel_rfl) rfl [(0, .pointer none)] (by kernel_rfl) (by kernel_rfl) ?_
 have hM0 := Mem.start w
 refine GoS.run [0, 3, 5] [.n, .n, .n, .n, .n, .n, .n, .n, .n, .n, .n, .n] _ [.inRegion (cops (csub (cd Try.f22) [1,1,0,0])) [1,2], iC Try.f22 [1,1,0,1], iC Try.f22 [1,1,1]] [(0, .pointer none), (3, .slice none 0 0), (5, .pointer none)] w (by kernel_rfl) .nil ?_
 refine GoS.call [0, 3] 23 #[.pointer none] (some 6) [.inRegion (cops (csub (cd Try.f22) [1,1,0,0])) [2], iC Try.f22 [1,1,0,1], iC Try.f22 [1,1,1]] [(0, .pointer none), (3, .slice none 0 0)] (by kernel_rfl) (len0_c (w := w)) ?_
 rintro _ w1 ⟨rfl, m2⟩
 refine ⟨_, rfl, ?_⟩
 have hM3 : Mem [] w w1 [] := Mem.join (R := []) hM0 m2
 refine GoS.run [2] [.n, .n, .n, .n, .n, .n, .n, .n, .n, .n, .n, .n, .n, .n, .n, .n] _ [iC Try.f22 [1,1,1,1]] [(2, .slice none 0 0)] w1 (by kernel_rfl) .nil ?_
 refine GoS.ret (fn := Try.f22) (v := (.slice none 0 0)) Try.func22 (by kernel_rfl) ?_
 rw [hR]
 exact ⟨rfl, hM3.sub sN⟩


end Go.Proofs.Ytcdcehjilneifaa
