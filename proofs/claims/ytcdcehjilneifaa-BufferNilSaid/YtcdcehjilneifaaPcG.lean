/-
  The walks of place, Has, Len.
-/
import Derived.Test.YtcdcehjilneifaaPcF
import Derived.Test.YtcdcehjilneifaaPcQ
import Derived.Test.YtcdcehjilneifaaDel
namespace Go.Proofs.Ytcdcehjilneifaa
open Go Go.Gw Go.UtfP Go.TokP Go.PcP Go.RowKit
set_option linter.unusedVariables false
set_option linter.unusedSimpArgs false
set_option maxRecDepth 20000

theorem sT43 : SliceT Try.prog 43 29 3 64 (.agg #[.string (sb ([])), .slice none 0 0, .slice none 0 0]) := ⟨by kernel_rfl, ⟨_, rfl, by kernel_rfl, by kernel_rfl, by kernel_rfl⟩, rfl, by decide⟩
theorem pE43 : Plain Try.prog 43 := ⟨.slice 29, by kernel_rfl, (fun _ h => by cases h), (fun _ _ h => by cases h)⟩

abbrev uG0 : List Nat := [1,0,1,0,0]
abbrev uG1 : List Nat := [1,0,1,0,0,1,1,1]
abbrev uG2 : List Nat := [1,0,1,0,0,1,1,0,0,1,1]
set_option maxHeartbeats 400000 in
theorem pred_c (x : PZ) (hx1 : One1 x.nums) (hx2 : One1 x.words) (key : List UInt8) (bk : Nat) {w : World} (hbk : Rd w 1 (obj bk) 1 [.string (sb key)]) :
  Calls Try.prog 55 #[.agg #[.string (sb (x.pc.key)), x.nums, x.words], pq bk] w (fun e w' => e = .returned (.bool (decide (x.pc.key = key))) ∧ Mem [] w w' []) := by
 obtain ⟨R, hR⟩ : ∃ R : Ending → World → Prop, R = (fun e w' => e = .returned (.bool (decide (x.pc.key = key))) ∧ Mem [] w w' []) := ⟨_, rfl⟩
 rw [← hR]
 refine GoS.enter (n := 8) Try.func55 (by kernel_rfl) rfl [(0, .agg #[.string (sb (x.pc.key)), x.nums, x.words]), (1, pq bk)] (by kernel_rfl) (by kernel_rfl) ?_
 have hM0 := Mem.start w
 obtain ⟨b1, w2, hr3, hM4⟩ := m_box (T := 29) (k := 3) (u := .agg #[.string (sb (x.pc.key)), x.nums, x.words]) rfl rfl hM0
 have hM5 : Mem [] w w2 [⟨29, 3, (obj b1), 1, [.string (sb (x.pc.key)), x.nums, x.words]⟩] := hM4
 have o6 : (Instr.box 29 (.agg #[.string (sb (x.pc.key)), x.nums, x.words])).run Try.prog w = .ok (pq b1) w2 := hr3
 have o7 : (Instr.loadAt 9 (pq b1)).run Try.prog w2 = .ok (.string (sb (x.pc.key))) w2 := c_load pE9 (hM5.rd 0 rfl) (cel_obj b1 0) rfl
 have o8 : (Instr.loadAt 9 (pq bk)).run Try.prog w2 = .ok (.string (sb key)) w2 := c_load pE9 (hbk.kept0 hM5.kept) (cel_obj bk 0) rfl
 have o9 : (binOp .eql 9 (.string (sb (x.pc.key))) (.string (sb key))).run Try.prog w2 = .ok (.bool (decide (x.pc.key = key))) w2 := f_streq
 have hM10 := hM5.sub (sD sR)
 refine GoS.run [3] [.n, .n, .u (pq b1) (w2), .n, .n, .n, .n, .n, .h (.string (sb (x.pc.key))), .h (.string (sb key)), .h (.bool (decide (x.pc.key = key))), .n, .n] _ [.code (csub (cd Try.f55) [1,1])] [(3, .bool (decide (x.pc.key = key)))] w2 (by kernel_rfl) (.cons o6 (.cons o7 (.cons o8 (.cons o9 .nil)))) ?_
 refine GoS.ret (fn := Try.f55) (v := (.bool (decide (x.pc.key = key)))) Try.func55 (by kernel_rfl) ?_
 rw [hR]
 exact ⟨rfl, hM10.sub sN⟩

set_option maxHeartbeats 400000 in
theorem idx_L {w0 : World} (key : List UInt8) (bk : Nat) (v : Value) (Z : List PZ) (hv : Rd w0 3 v Z.length (recs pzC Z)) (hbk : Rd w0 1 (obj bk) 1 [.string (sb key)]) (hone : OneZ Z) (R : Ending → World → Prop) (hR : R = (fun e w' => e = .returned (.int .i64 (placeI (Z.map PZ.pc) key)) ∧ Mem [] w0 w' [])) : ∀ (N : Nat) (i : Nat) (w : World) (hi : i ≤ Z.length) (hn : ∀ j, j < i → (Z.getD j pz).pc.key ≠ key) (hM : Mem [] w0 w []) (hN : Z.length - i < N), GoS Try.prog 54 R 19 [.code (csub (cd Try.f54) uG0), .inLoop (csub (cd Try.f54) uG0), .inBlock 0, .code (csub (cd Try.f54) [1,1])] [(0, v), (1, .func (.func 55) #[] #[pq bk]), (7, .int .i64 (((List.length Z) : Nat) : Int)), (8, .int .i64 ((i : Nat) : Int))] w := by
 intro N
 induction N with
 | zero => intro i w hi hn hM hN; exact absurd hN (Nat.not_lt_zero _)
 | succ N ih =>
  intro i w hi hn hM hN
  have hln := rd_len hv
  simp only [maxLen] at hln
  refine GoS.run [0, 1, 7, 8, 9] [.n, .n, .n, .n, .n] _ [.code (csub (cd Try.f54) [1,0,1,0,0,1,0]), .code (csub (cd Try.f54) [1,0,1,0,0,1,1]), .inLoop (csub (cd Try.f54) uG0), .inBlock 0, .code (csub (cd Try.f54) [1,1])] [(0, v), (1, .func (.func 55) #[] #[pq bk]), (7, .int .i64 (((List.length Z) : Nat) : Int)), (8, .int .i64 ((i : Nat) : Int)), (9, .bool (decide (((i : Nat) : Int) < (((List.length Z) : Nat) : Int))))] w (by kernel_rfl) .nil ?_
  refine GoS.cond (decide (((i : Nat) : Int) < (((List.length Z) : Nat) : Int))) [.code (csub (cd Try.f54) [1,0,1,0,0,1,0,0]), .code (csub (cd Try.f54) [1,0,1,0,0,1,1]), .inLoop (csub (cd Try.f54) uG0), .inBlock 0, .code (csub (cd Try.f54) [1,1])] [.code (csub (cd Try.f54) [1,0,1,0,0,1,0,1]), .code (csub (cd Try.f54) [1,0,1,0,0,1,1]), .inLoop (csub (cd Try.f54) uG0), .inBlock 0, .code (csub (cd Try.f54) [1,1])] (by kernel_rfl) (fun h1 => ?_) (fun h1 => ?_)
  ·
   have h1p : ((i : Nat) : Int) < (((List.length Z) : Nat) : Int) := of_decide_eq_true h1
   refine GoS.run [0, 1, 7, 8] [.n] _ [.code (csub (cd Try.f54) [1,0,1,0,0,1,1]), .inLoop (csub (cd Try.f54) uG0), .inBlock 0, .code (csub (cd Try.f54) [1,1])] [(0, v), (1, .func (.func 55) #[] #[pq bk]), (7, .int .i64 (((List.length Z) : Nat) : Int)), (8, .int .i64 ((i : Nat) : Int))] w (by kernel_rfl) .nil ?_
   obtain ⟨p2, hp3, hq4⟩ := rd_at (i := ((i : Nat) : Int)) sT43 (hv.kept0 hM.kept) i (by omega) (by first | omega | (dsimp only; omega))
   have o5 : (Instr.indexAt 43 (v) (.int .i64 ((i : Nat) : Int))).run Try.prog w = .ok (.pointer (some p2)) w := hq4 _ _
   have o6 : (Instr.loadAt 29 (.pointer (some p2))).run Try.prog w = .ok (.agg #[.string (sb ((List.getD Z i pz).pc.key)), ((List.getD Z i pz).nums), ((List.getD Z i pz).words)]) w := r_loads (f := pzC) (l := Z) aE29 (hv.kept0 hM.kept) pzC_len hp3 (by first | omega | (dsimp only; omega)) pz
   refine GoS.run [0, 1, 5, 7, 8, 11, 15] [.n, .n, .n, .n, .n, .n, .n, .n, .n, .n, .n, .n, .h (.pointer (some p2)), .h (.agg #[.string (sb ((List.getD Z i pz).pc.key)), ((List.getD Z i pz).nums), ((List.getD Z i pz).words)])] _ [.inRegion (cops (csub (cd Try.f54) [1,0,1,0,0,1,1,0,0,1,0])) [5], .code (csub (cd Try.f54) uG2), .inBlock 1, .code (csub (cd Try.f54) uG1), .inLoop (csub (cd Try.f54) uG0), .inBlock 0, .code (csub (cd Try.f54) [1,1])] [(0, v), (1, .func (.func 55) #[] #[pq bk]), (5, .int .i64 ((i : Nat) : Int)), (7, .int .i64 (((List.length Z) : Nat) : Int)), (8, .int .i64 ((i : Nat) : Int)), (11, .func (.func 55) #[] #[pq bk]), (15, .agg #[.string (sb ((List.getD Z i pz).pc.key)), ((List.getD Z i pz).nums), ((List.getD Z i pz).words)])] w (by kernel_rfl) (.cons o5 (.cons o6 .nil)) ?_
   refine GoS.call [0, 1, 5, 7, 8] 55 #[.agg #[.string (sb ((List.getD Z i pz).pc.key)), ((List.getD Z i pz).nums), ((List.getD Z i pz).words)], pq bk] (some 16) [.inRegion (cops (csub (cd Try.f54) [1,0,1,0,0,1,1,0,0,1,0])) [], .code (csub (cd Try.f54) uG2), .inBlock 1, .code (csub (cd Try.f54) uG1), .inLoop (csub (cd Try.f54) uG0), .inBlock 0, .code (csub (cd Try.f54) [1,1])] [(0, v), (1, .func (.func 55) #[] #[pq bk]), (5, .int .i64 ((i : Nat) : Int)), (7, .int .i64 (((List.length Z) : Nat) : Int)), (8, .int .i64 ((i : Nat) : Int))] (by kernel_rfl) (pred_c (List.getD Z i pz) (hone _ (getD_mem (i := i) (d := pz) (by omega))).1 (hone _ (getD_mem (i := i) (d := pz) (by omega))).2 key bk (hbk.kept0 hM.kept)) ?_
   rintro _ w7 ⟨rfl, m8⟩
   refine ⟨_, rfl, ?_⟩
   have hM9 : Mem [] w0 w7 [] := Mem.join (R := []) hM m8
   refine GoS.run [0, 1, 5, 7, 8, 16] [.n] _ [.code (csub (cd Try.f54) uG2), .inBlock 1, .code (csub (cd Try.f54) uG1), .inLoop (csub (cd Try.f54) uG0), .inBlock 0, .code (csub (cd Try.f54) [1,1])] [(0, v), (1, .func (.func 55) #[] #[pq bk]), (5, .int .i64 ((i : Nat) : Int)), (7, .int .i64 (((List.length Z) : Nat) : Int)), (8, .int .i64 ((i : Nat) : Int)), (16, .bool (decide ((List.getD Z i pz).pc.key = key)))] w7 (by kernel_rfl) .nil ?_
   refine GoS.cond (decide ((List.getD Z i pz).pc.key = key)) [.code (csub (cd Try.f54) [1,0,1,0,0,1,1,0,0,1,1,0]), .inBlock 1, .code (csub (cd Try.f54) uG1), .inLoop (csub (cd Try.f54) uG0), .inBlock 0, .code (csub (cd Try.f54) [1,1])] [.code (csub (cd Try.f54) [1,0,1,0,0,1,1,0,0,1,1,1]), .inBlock 1, .code (csub (cd Try.f54) uG1), .inLoop (csub (cd Try.f54) uG0), .inBlock 0, .code (csub (cd Try.f54) [1,1])] (by kernel_rfl) (fun h10 => ?_) (fun h10 => ?_)
   ·
    have h10p : (List.getD Z i pz).pc.key = key := of_decide_eq_true h10
    refine GoS.run [4] [.n, .n, .n, .n, .n] _ [.code (csub (cd Try.f54) [1,0,1,0,0,1,1,0,0,1,1,0,1]), .inBlock 1, .code (csub (cd Try.f54) uG1), .inLoop (csub (cd Try.f54) uG0), .inBlock 0, .code (csub (cd Try.f54) [1,1])] [(4, .int .i64 ((i : Nat) : Int))] w7 (by kernel_rfl) .nil ?_
    refine GoS.ret (fn := Try.f54) (v := (.int .i64 ((i : Nat) : Int))) Try.func54 (by kernel_rfl) ?_
    rw [hR]
    exact ⟨ret_int (place_at (by omega) h10p hn).symm, hM9.sub sN⟩
   ·
    have h10p : ¬ ((List.getD Z i pz).pc.key = key) := of_decide_eq_false h10
    refine GoS.run [0, 1, 7, 8] [.n] _ [.inBlock 1, .code (csub (cd Try.f54) uG1), .inLoop (csub (cd Try.f54) uG0), .inBlock 0, .code (csub (cd Try.f54) [1,1])] [(0, v), (1, .func (.func 55) #[] #[pq bk]), (7, .int .i64 (((List.length Z) : Nat) : Int)), (8, .int .i64 ((i : Nat) : Int))] w7 (by kernel_rfl) .nil ?_
    have o11 : (binOp .add 3 (.int .i64 ((i : Nat) : Int)) (.int .i64 1)).run Try.prog w7 = .ok (.int .i64 (((i + 1) : Nat) : Int)) w7 := f_add (by rw [show ((i : Nat) : Int) + 1 = (((i + 1) : Nat) : Int) by omega]; exact IntWalk.i64_in _ (by omega))
    refine GoS.run [0, 1, 7, 8] [.n, .n, .h (.int .i64 (((i + 1) : Nat) : Int)), .n, .n, .n] _ [.code (csub (cd Try.f54) uG0), .inLoop (csub (cd Try.f54) uG0), .inBlock 0, .code (csub (cd Try.f54) [1,1])] [(0, v), (1, .func (.func 55) #[] #[pq bk]), (7, .int .i64 (((List.length Z) : Nat) : Int)), (8, .int .i64 (((i + 1) : Nat) : Int))] w7 (by kernel_rfl) (.cons o11 .nil) ?_
    exact ih (i + 1) _ (by omega) (fun j hj => by rcases Nat.lt_succ_iff_lt_or_eq.1 hj with g | g; exact hn j g; subst g; exact h10p) (hM9.sub sN) (by omega)
  ·
   have h1p : ¬ (((i : Nat) : Int) < (((List.length Z) : Nat) : Int)) := of_decide_eq_false h1
   refine GoS.run [4] [.n, .n, .n, .n, .n] _ [.code (csub (cd Try.f54) [1,1,1])] [(4, .int .i64 (-1))] w (by kernel_rfl) .nil ?_
   refine GoS.ret (fn := Try.f54) (v := (.int .i64 (-1))) Try.func54 (by kernel_rfl) ?_
   rw [hR]
   exact ⟨ret_int (place_none (fun j hj => hn j (by omega))).symm, hM.sub sN⟩

set_option maxHeartbeats 400000 in
theorem idx_c {w : World} (key : List UInt8) (bk : Nat) (v : Value) (Z : List PZ) (hv : Rd w 3 v Z.length (recs pzC Z)) (hbk : Rd w 1 (obj bk) 1 [.string (sb key)]) (hone : OneZ Z) :
  Calls Try.prog 54 #[v, .func (.func 55) #[] #[pq bk]] w (fun e w' => e = .returned (.int .i64 (placeI (Z.map PZ.pc) key)) ∧ Mem [] w w' []) := by
 have hln := rd_len hv
 simp only [maxLen] at hln
 obtain ⟨R, hR⟩ : ∃ R : Ending → World → Prop, R = (fun e w' => e = .returned (.int .i64 (placeI (Z.map PZ.pc) key)) ∧ Mem [] w w' []) := ⟨_, rfl⟩
 rw [← hR]
 refine GoS.enter (n := 19) Try.func54 (by kernel_rfl) rfl [(0, v), (1, .func (.func 55) #[] #[pq bk])] (by kernel_rfl) (by kernel_rfl) ?_
 have hM0 := Mem.start w
 have o1 : (Builtin.len_ #[43] 3 #[v]).run Try.prog w = .ok (.int .i64 (((List.length Z) : Nat) : Int)) w := f_slen sT43 (hv.kept0 hM0.kept) 3 _
 refine GoS.run [0, 1, 7, 8] [.n, .n, .n, .n, .n, .n, .n, .n, .h (.int .i64 (((List.length Z) : Nat) : Int)), .n, .n, .n, .n] _ [.code (csub (cd Try.f54) uG0), .inLoop (csub (cd Try.f54) uG0), .inBlock 0, .code (csub (cd Try.f54) [1,1])] [(0, v), (1, .func (.func 55) #[] #[pq bk]), (7, .int .i64 (((List.length Z) : Nat) : Int)), (8, .int .i64 0)] w (by kernel_rfl) (.cons o1 .nil) ?_
 exact idx_L key bk v Z hv hbk hone R hR (Z.length + 1) 0 w (Nat.zero_le _) (fun j hj => absurd hj (Nat.not_lt_zero _)) (hM0.sub sN) (by omega)

set_option maxHeartbeats 400000 in
theorem place_c (b : Nat) (key : List UInt8) (v : Value) (Z : List PZ) {w : World} (hb : Rd w 1 (obj b) 1 [v]) (hv : Rd w 3 v Z.length (recs pzC Z)) (hone : OneZ Z) :
  Calls Try.prog 39 #[pq b, .string (sb key)] w (fun e w' => e = .returned (.int .i64 (placeI (Z.map PZ.pc) key)) ∧ Mem [] w w' []) := by
 obtain ⟨R, hR⟩ : ∃ R : Ending → World → Prop, R = (fun e w' => e = .returned (.int .i64 (placeI (Z.map PZ.pc) key)) ∧ Mem [] w w' []) := ⟨_, rfl⟩
 rw [← hR]
 refine GoS.enter (n := 13) Try.func39 (by kernel_rfl) rfl [(0, pq b), (1, .string (sb key))] (by kernel_rfl) (by kernel_rfl) ?_
 have hM0 := Mem.start w
 obtain ⟨b1, w2, hr3, hM4⟩ := m_box (T := 9) (k := 1) (u := .string (sb key)) rfl rfl hM0
 have hM5 : Mem [] w w2 [⟨9, 1, (obj b1), 1, [.string (sb key)]⟩] := hM4
 have o6 : (Instr.box 9 (.string (sb key))).run Try.prog w = .ok (pq b1) w2 := hr3
 have o7 : (Instr.loadAt 43 (pq b)).run Try.prog w2 = .ok (v) w2 := c_load pE43 (hb.kept0 hM5.kept) (cel_obj b 0) rfl
 refine GoS.run [10, 11] [.n, .n, .u (pq b1) (w2), .n, .n, .n, .n, .n, .n, .n, .n, .n, .n, .n, .n, .n, .n, .n, .h (v), .n] _ [.inRegion (cops (csub (cd Try.f39) [1,1,0])) [5,6], .code (csub (cd Try.f39) [1,1,1])] [(10, v), (11, .func (.func 55) #[] #[pq b1])] w2 (by kernel_rfl) (.cons o6 (.cons o7 .nil)) ?_
 refine GoS.call [] 54 #[v, .func (.func 55) #[] #[pq b1]] (some 12) [.inRegion (cops (csub (cd Try.f39) [1,1,0])) [6], .code (csub (cd Try.f39) [1,1,1])] [] (by kernel_rfl) (idx_c key b1 v Z (hv.kept0 hM5.kept) (hM5.rd 0 rfl) hone) ?_
 rintro _ w8 ⟨rfl, m9⟩
 refine ⟨_, rfl, ?_⟩
 have hM10 : Mem [] w w8 [⟨9, 1, (obj b1), 1, [.string (sb key)]⟩] := Mem.join (R := []) hM5 m9
 have hM11 := hM10.sub (sD sR)
 refine GoS.run [4] [.n, .n] _ [.code (csub (cd Try.f39) [1,1,1])] [(4, .int .i64 (placeI (List.map PZ.pc Z) key))] w8 (by kernel_rfl) .nil ?_
 refine GoS.ret (fn := Try.f39) (v := (.int .i64 (placeI (List.map PZ.pc Z) key))) Try.func39 (by kernel_rfl) ?_
 rw [hR]
 exact ⟨rfl, hM11.sub sN⟩

set_option maxHeartbeats 400000 in
theorem has_c (b : Nat) (key : List UInt8) (v : Value) (Z : List PZ) {w : World} (hb : Rd w 1 (obj b) 1 [v]) (hv : Rd w 3 v Z.length (recs pzC Z)) (hone : OneZ Z) :
  Calls Try.prog 24 #[pq b, .string (sb key)] w (fun e w' => e = .returned (.bool (hasK (Z.map PZ.pc) key)) ∧ Mem [] w w' []) := by
 obtain ⟨R, hR⟩ : ∃ R : Ending → World → Prop, R = (fun e w' => e = .returned (.bool (hasK (Z.map PZ.pc) key)) ∧ Mem [] w w' []) := ⟨_, rfl⟩
 rw [← hR]
 refine GoS.enter (n := 9) Try.func24 (by kernel_rfl) rfl [(0, pq b), (1, .string (sb key))] (by kernel_rfl) (by kernel_rfl) ?_
 have hM0 := Mem.start w
 refine GoS.run [5, 6] [.n, .n, .n, .n, .n, .n, .n, .n] _ [.inRegion (cops (csub (cd Try.f24) [1,0])) [2,3,4], .code (csub (cd Try.f24) [1,1])] [(5, pq b), (6, .string (sb key))] w (by kernel_rfl) .nil ?_
 refine GoS.call [] 39 #[pq b, .string (sb key)] (some 7) [.inRegion (cops (csub (cd Try.f24) [1,0])) [3,4], .code (csub (cd Try.f24) [1,1])] [] (by kernel_rfl) (place_c b key v Z (hb.kept0 hM0.kept) (hv.kept0 hM0.kept) hone) ?_
 rintro _ w1 ⟨rfl, m2⟩
 refine ⟨_, rfl, ?_⟩
 have hM3 : Mem [] w w1 [] := Mem.join (R := []) hM0 m2
 refine GoS.run [4] [.n, .n, .n] _ [.code (csub (cd Try.f24) [1,1])] [(4, .bool (decide ((placeI (List.map PZ.pc Z) key) ≥ 0)))] w1 (by kernel_rfl) .nil ?_
 refine GoS.ret (fn := Try.f24) (v := (.bool (decide ((placeI (List.map PZ.pc Z) key) ≥ 0)))) Try.func24 (by kernel_rfl) ?_
 rw [hR]
 exact ⟨ret_bool (by rw [has_place, ← decide_not]; exact decide_eq_decide.2 (by omega)), hM3.sub sN⟩

set_option maxHeartbeats 400000 in
theorem len_c (b : Nat) (key : List UInt8) (v : Value) (Z : List PZ) {w : World} (hb : Rd w 1 (obj b) 1 [v]) (hv : Rd w 3 v Z.length (recs pzC Z)) (hone : OneZ Z) :
  Calls Try.prog 23 #[pq b] w (fun e w' => e = .returned (.int .i64 ((Z.length : Nat) : Int)) ∧ Mem [] w w' []) := by
 obtain ⟨R, hR⟩ : ∃ R : Ending → World → Prop, R = (fun e w' => e = .returned (.int .i64 ((Z.length : Nat) : Int)) ∧ Mem [] w w' []) := ⟨_, rfl⟩
 rw [← hR]
 refine GoS.enter (n := 10) Try.func23 (by kernel_rfl) rfl [(0, pq b)] (by kernel_rfl) (by kernel_rfl) ?_
 have hM0 := Mem.start w
 have o1 : (Instr.loadAt 43 (pq b)).run Try.prog w = .ok (v) w := c_load pE43 (hb.kept0 hM0.kept) (cel_obj b 0) rfl
 have o2 : (Builtin.len_ #[43] 3 #[v]).run Try.prog w = .ok (.int .i64 (((List.length Z) : Nat) : Int)) w := f_slen sT43 (hv.kept0 hM0.kept) 3 _
 refine GoS.run [2] [.n, .n, .n, .n, .n, .n, .n, .n, .n, .n, .n, .n, .n, .n, .n, .n, .n, .h (v), .h (.int .i64 (((List.length Z) : Nat) : Int)), .n, .n] _ [.code (csub (cd Try.f23) [1,1,1])] [(2, .int .i64 (((List.length Z) : Nat) : Int))] w (by kernel_rfl) (.cons o1 (.cons o2 .nil)) ?_
 refine GoS.ret (fn := Try.f23) (v := (.int .i64 (((List.length Z) : Nat) : Int))) Try.func23 (by kernel_rfl) ?_
 rw [hR]
 exact ⟨rfl, hM0.sub sN⟩

set_option maxHeartbeats 400000 in
theorem place0_c (key : List UInt8) {w : World} :
  Calls Try.prog 39 #[.pointer none, .string (sb key)] w (fun e w' => e = .returned (.int .i64 (-1)) ∧ Mem [] w w' []) := by
 obtain ⟨R, hR⟩ : ∃ R : Ending → World → Prop, R = (fun e w' => e = .returned (.int .i64 (-1)) ∧ Mem [] w w' []) := ⟨_, rfl⟩
 rw [← hR]
 refine GoS.enter (n := 13) Try.func39 (by kernel_rfl) rfl [(0, .pointer none), (1, .string (sb key))] (by kernel_rfl) (by kernel_rfl) ?_
 have hM0 := Mem.start w
 obtain ⟨b1, w2, hr3, hM4⟩ := m_box (T := 9) (k := 1) (u := .string (sb key)) rfl rfl hM0
 have hM5 : Mem [] w w2 [⟨9, 1, (obj b1), 1, [.string (sb key)]⟩] := hM4
 have o6 : (Instr.box 9 (.string (sb key))).run Try.prog w = .ok (pq b1) w2 := hr3
 have hM7 := hM5.sub (sD sR)
 refine GoS.run [4] [.n, .n, .u (pq b1) (w2), .n, .n, .n, .n, .n, .n, .n, .n, .n, .n, .n, .n, .n] _ [.code (csub (cd Try.f39) [1,0,1,0,1]), .code (csub (cd Try.f39) [1,1])] [(4, .int .i64 (-1))] w2 (by kernel_rfl) (.cons o6 .nil) ?_
 refine GoS.ret (fn := Try.f39) (v := (.int .i64 (-1))) Try.func39 (by kernel_rfl) ?_
 rw [hR]
 exact ⟨rfl, hM7.sub sN⟩

set_option maxHeartbeats 400000 in
theorem has0_c (key : List UInt8) {w : World} :
  Calls Try.prog 24 #[.pointer none, .string (sb key)] w (fun e w' => e = .returned (.bool false) ∧ Mem [] w w' []) := by
 obtain ⟨R, hR⟩ : ∃ R : Ending → World → Prop, R = (fun e w' => e = .returned (.bool false) ∧ Mem [] w w' []) := ⟨_, rfl⟩
 rw [← hR]
 refine GoS.enter (n := 9) Try.func24 (by kernel_rfl) rfl [(0, .pointer none), (1, .string (sb key))] (by kernel_rfl) (by kernel_rfl) ?_
 have hM0 := Mem.start w
 refine GoS.run [5, 6] [.n, .n, .n, .n, .n, .n, .n, .n] _ [.inRegion (cops (csub (cd Try.f24) [1,0])) [2,3,4], .code (csub (cd Try.f24) [1,1])] [(5, .pointer none), (6, .string (sb key))] w (by kernel_rfl) .nil ?_
 refine GoS.call [] 39 #[.pointer none, .string (sb key)] (some 7) [.inRegion (cops (csub (cd Try.f24) [1,0])) [3,4], .code (csub (cd Try.f24) [1,1])] [] (by kernel_rfl) (place0_c key (w := w)) ?_
 rintro _ w1 ⟨rfl, m2⟩
 refine ⟨_, rfl, ?_⟩
 have hM3 : Mem [] w w1 [] := Mem.join (R := []) hM0 m2
 refine GoS.run [4] [.n, .n, .n] _ [.code (csub (cd Try.f24) [1,1])] [(4, .bool false)] w1 (by kernel_rfl) .nil ?_
 refine GoS.ret (fn := Try.f24) (v := (.bool false)) Try.func24 (by kernel_rfl) ?_
 rw [hR]
 exact ⟨rfl, hM3.sub sN⟩

set_option maxHeartbeats 400000 in
theorem len0_c {w : World} :
  Calls Try.prog 23 #[.pointer none] w (fun e w' => e = .returned (.int .i64 0) ∧ Mem [] w w' []) := by
 obtain ⟨R, hR⟩ : ∃ R : Ending → World → Prop, R = (fun e w' => e = .returned (.int .i64 0) ∧ Mem [] w w' []) := ⟨_, rfl⟩
 rw [← hR]
 refine GoS.enter (n := 10) Try.func23 (by kernel_rfl) rfl [(0, .pointer none)] (by kernel_rfl) (by kernel_rfl) ?_
 have hM0 := Mem.start w
 refine GoS.run [2] [.n, .n, .n, .n, .n, .n, .n, .n, .n, .n, .n, .n, .n, .n, .n] _ [.code (csub (cd Try.f23) [1,0,1,0,1]), .code (csub (cd Try.f23) [1,1])] [(2, .int .i64 0)] w (by kernel_rfl) .nil ?_
 refine GoS.ret (fn := Try.f23) (v := (.int .i64 0)) Try.func23 (by kernel_rfl) ?_
 rw [hR]
 exact ⟨rfl, hM0.sub sN⟩


end Go.Proofs.Ytcdcehjilneifaa
