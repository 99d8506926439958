/-
  The walks of the comparisons, the sorts.
-/
import Derived.Test.YtcdcehjilneifaaPcD
import Derived.Test.YtcdcehjilneifaaSortD
import Derived.Test.YtcdcehjilneifaaSrtA
namespace Go.Proofs.Ytcdcehjilneifaa
open Go Go.Gw Go.UtfP Go.TokP Go.PcP Go.RowKit
set_option linter.unusedVariables false
set_option linter.unusedSimpArgs false
set_option maxRecDepth 20000



set_option maxHeartbeats 400000 in
theorem cmps_c (a b : List UInt8) (w : World) :
  Calls Try.prog 48 #[.string (sb a), .string (sb b)] w (fun e w' => e = .returned (.int .i64 (Lib.compareBytes a b)) ∧ w = w') := by
 obtain ⟨R, hR⟩ : ∃ R : Ending → World → Prop, R = (fun e w' => e = .returned (.int .i64 (Lib.compareBytes a b)) ∧ w = w') := ⟨_, rfl⟩
 rw [← hR]
 refine GoS.enter (n := 8) Try.func48 (by kernel_rfl) rfl [(0, .string (sb a)), (1, .string (sb b))] (by kernel_rfl) (by kernel_rfl) ?_
 have o1 : (callFunc 68 #[.string (sb a), .string (sb b)]).run Try.prog w = .ok (.value (.int .i64 (Lib.compareBytes a b))) w := x_cmp Try.func68 (by kernel_rfl) (by kernel_rfl) (by kernel_rfl) (by kernel_rfl) a b w
 refine GoS.run [4] [.n, .n, .n, .n, .n, .n, .n, .n, .h (.int .i64 (Lib.compareBytes a b)), .n, .n] _ [.code (csub (cd Try.f48) [1,1])] [(4, .int .i64 (Lib.compareBytes a b))] w (by kernel_rfl) (.cons o1 .nil) ?_
 refine GoS.ret (fn := Try.f48) (v := (.int .i64 (Lib.compareBytes a b))) Try.func48 (by kernel_rfl) ?_
 rw [hR]
 exact ⟨rfl, rfl⟩

set_option maxHeartbeats 400000 in
theorem cmpt_c (a b : List UInt8) (w : World) :
  Calls Try.prog 31 #[.string (sb a), .string (sb b)] w (fun e w' => e = .returned (.int .i64 (Lib.compareBytes a b)) ∧ w = w') := by
 obtain ⟨R, hR⟩ : ∃ R : Ending → World → Prop, R = (fun e w' => e = .returned (.int .i64 (Lib.compareBytes a b)) ∧ w = w') := ⟨_, rfl⟩
 rw [← hR]
 refine GoS.enter (n := 8) Try.func31 (by kernel_rfl) rfl [(0, .string (sb a)), (1, .string (sb b))] (by kernel_rfl) (by kernel_rfl) ?_
 refine GoS.run [5, 6] [.n, .n, .n, .n, .n, .n, .n, .n] _ [.inRegion (cops (csub (cd Try.f31) [1,0])) [2,3], .code (csub (cd Try.f31) [1,1])] [(5, .string (sb a)), (6, .string (sb b))] w (by kernel_rfl) .nil ?_
 refine GoS.call [] 48 #[.string (sb a), .string (sb b)] (some 7) [.inRegion (cops (csub (cd Try.f31) [1,0])) [3], .code (csub (cd Try.f31) [1,1])] [] (by kernel_rfl) (cmps_c a b w) ?_
 rintro _ _ ⟨rfl, rfl⟩
 refine ⟨_, rfl, ?_⟩
 refine GoS.run [4] [.n, .n] _ [.code (csub (cd Try.f31) [1,1])] [(4, .int .i64 (Lib.compareBytes a b))] w (by kernel_rfl) .nil ?_
 refine GoS.ret (fn := Try.f31) (v := (.int .i64 (Lib.compareBytes a b))) Try.func31 (by kernel_rfl) ?_
 rw [hR]
 exact ⟨rfl, rfl⟩

set_option maxHeartbeats 400000 in
theorem cmpw_c (x y : WZ) (hx : x.toks.oneCell' = true ∧ x.toks.cells = #[x.toks] ∧ x.toks.cells.toList = [x.toks]) (hy : y.toks.oneCell' = true ∧ y.toks.cells = #[y.toks] ∧ y.toks.cells.toList = [y.toks]) (w : World) :
  Calls Try.prog 30 #[.agg #[.string (sb (x.wd.name)), x.toks], .agg #[.string (sb (y.wd.name)), y.toks]] w (fun e w' => e = .returned (.int .i64 (Lib.compareBytes x.wd.name y.wd.name)) ∧ Grew w w') := by
 obtain ⟨R, hR⟩ : ∃ R : Ending → World → Prop, R = (fun e w' => e = .returned (.int .i64 (Lib.compareBytes x.wd.name y.wd.name)) ∧ Grew w w') := ⟨_, rfl⟩
 rw [← hR]
 refine GoS.enter (n := 10) Try.func30 (by kernel_rfl) rfl [(0, .agg #[.string (sb (x.wd.name)), x.toks]), (1, .agg #[.string (sb (y.wd.name)), y.toks])] (by kernel_rfl) (by kernel_rfl) ?_
 have hM0 := Mem.start w
 obtain ⟨b1, w2, hr3, hM4⟩ := m_box (T := 68) (k := 2) (u := .agg #[.string (sb (x.wd.name)), x.toks]) rfl rfl hM0
 have hG5 := (Grew.refl w).trans (box_grown hr3)
 have hM6 : Mem [] w w2 [⟨68, 2, (obj b1), 1, [.string (sb (x.wd.name)), x.toks]⟩] := hM4
 have o13 : (Instr.box 68 (.agg #[.string (sb (x.wd.name)), x.toks])).run Try.prog w = .ok (pq b1) w2 := hr3
 obtain ⟨b7, w8, hr9, hM10⟩ := m_box (T := 68) (k := 2) (u := .agg #[.string (sb (y.wd.name)), y.toks]) rfl rfl hM6
 have hG11 := hG5.trans (box_grown hr9)
 have hM12 : Mem [] w w8 [⟨68, 2, (obj b7), 1, [.string (sb (y.wd.name)), y.toks]⟩, ⟨68, 2, (obj b1), 1, [.string (sb (x.wd.name)), x.toks]⟩] := hM10
 have o14 : (Instr.box 68 (.agg #[.string (sb (y.wd.name)), y.toks])).run Try.prog w2 = .ok (pq b7) w8 := hr9
 have o15 : (Instr.loadAt 9 (pq b1)).run Try.prog w8 = .ok (.string (sb (x.wd.name))) w8 := c_load pE9 (hM12.rd 1 rfl) (cel_obj b1 0) rfl
 have o16 : (Instr.loadAt 9 (pq b7)).run Try.prog w8 = .ok (.string (sb (y.wd.name))) w8 := c_load pE9 (hM12.rd 0 rfl) (cel_obj b7 0) rfl
 have hM17 := hM12.sub (sD (sD sR))
 refine GoS.run [6, 8] [.n, .n, .u (pq b1) (w2), .u (pq b7) (w8), .n, .n, .n, .n, .n, .h (.string (sb (x.wd.name))), .n, .h (.string (sb (y.wd.name)))] _ [.inRegion (cops (csub (cd Try.f30) [1,0])) [4,5], .code (csub (cd Try.f30) [1,1])] [(6, .string (sb (x.wd.name))), (8, .string (sb (y.wd.name)))] w8 (by kernel_rfl) (.cons o13 (.cons o14 (.cons o15 (.cons o16 .nil)))) ?_
 refine GoS.call [] 31 #[.string (sb (x.wd.name)), .string (sb (y.wd.name))] (some 9) [.inRegion (cops (csub (cd Try.f30) [1,0])) [5], .code (csub (cd Try.f30) [1,1])] [] (by kernel_rfl) (cmpt_c (x.wd.name) (y.wd.name) w8) ?_
 rintro _ _ ⟨rfl, rfl⟩
 refine ⟨_, rfl, ?_⟩
 refine GoS.run [4] [.n, .n] _ [.code (csub (cd Try.f30) [1,1])] [(4, .int .i64 (Lib.compareBytes (x.wd.name) (y.wd.name)))] w8 (by kernel_rfl) .nil ?_
 refine GoS.ret (fn := Try.f30) (v := (.int .i64 (Lib.compareBytes (x.wd.name) (y.wd.name)))) Try.func30 (by kernel_rfl) ?_
 rw [hR]
 exact ⟨rfl, hG11⟩

set_option maxHeartbeats 400000 in
theorem cmpn_c (x y : Nm)  (w : World) :
  Calls Try.prog 33 #[.agg #[.string (sb (x.name)), .int .u64 (x.bits)], .agg #[.string (sb (y.name)), .int .u64 (y.bits)]] w (fun e w' => e = .returned (.int .i64 (Lib.compareBytes x.name y.name)) ∧ Grew w w') := by
 obtain ⟨R, hR⟩ : ∃ R : Ending → World → Prop, R = (fun e w' => e = .returned (.int .i64 (Lib.compareBytes x.name y.name)) ∧ Grew w w') := ⟨_, rfl⟩
 rw [← hR]
 refine GoS.enter (n := 10) Try.func33 (by kernel_rfl) rfl [(0, .agg #[.string (sb (x.name)), .int .u64 (x.bits)]), (1, .agg #[.string (sb (y.name)), .int .u64 (y.bits)])] (by kernel_rfl) (by kernel_rfl) ?_
 have hM0 := Mem.start w
 obtain ⟨b1, w2, hr3, hM4⟩ := m_box (T := 60) (k := 2) (u := .agg #[.string (sb (x.name)), .int .u64 (x.bits)]) rfl rfl hM0
 have hG5 := (Grew.refl w).trans (box_grown hr3)
 have hM6 : Mem [] w w2 [⟨60, 2, (obj b1), 1, [.string (sb (x.name)), .int .u64 (x.bits)]⟩] := hM4
 have o13 : (Instr.box 60 (.agg #[.string (sb (x.name)), .int .u64 (x.bits)])).run Try.prog w = .ok (pq b1) w2 := hr3
 obtain ⟨b7, w8, hr9, hM10⟩ := m_box (T := 60) (k := 2) (u := .agg #[.string (sb (y.name)), .int .u64 (y.bits)]) rfl rfl hM6
 have hG11 := hG5.trans (box_grown hr9)
 have hM12 : Mem [] w w8 [⟨60, 2, (obj b7), 1, [.string (sb (y.name)), .int .u64 (y.bits)]⟩, ⟨60, 2, (obj b1), 1, [.string (sb (x.name)), .int .u64 (x.bits)]⟩] := hM10
 have o14 : (Instr.box 60 (.agg #[.string (sb (y.name)), .int .u64 (y.bits)])).run Try.prog w2 = .ok (pq b7) w8 := hr9
 have o15 : (Instr.loadAt 9 (pq b1)).run Try.prog w8 = .ok (.string (sb (x.name))) w8 := c_load pE9 (hM12.rd 1 rfl) (cel_obj b1 0) rfl
 have o16 : (Instr.loadAt 9 (pq b7)).run Try.prog w8 = .ok (.string (sb (y.name))) w8 := c_load pE9 (hM12.rd 0 rfl) (cel_obj b7 0) rfl
 have hM17 := hM12.sub (sD (sD sR))
 refine GoS.run [6, 8] [.n, .n, .u (pq b1) (w2), .u (pq b7) (w8), .n, .n, .n, .n, .n, .h (.string (sb (x.name))), .n, .h (.string (sb (y.name)))] _ [.inRegion (cops (csub (cd Try.f33) [1,0])) [4,5], .code (csub (cd Try.f33) [1,1])] [(6, .string (sb (x.name))), (8, .string (sb (y.name)))] w8 (by kernel_rfl) (.cons o13 (.cons o14 (.cons o15 (.cons o16 .nil)))) ?_
 refine GoS.call [] 31 #[.string (sb (x.name)), .string (sb (y.name))] (some 9) [.inRegion (cops (csub (cd Try.f33) [1,0])) [5], .code (csub (cd Try.f33) [1,1])] [] (by kernel_rfl) (cmpt_c (x.name) (y.name) w8) ?_
 rintro _ _ ⟨rfl, rfl⟩
 refine ⟨_, rfl, ?_⟩
 refine GoS.run [4] [.n, .n] _ [.code (csub (cd Try.f33) [1,1])] [(4, .int .i64 (Lib.compareBytes (x.name) (y.name)))] w8 (by kernel_rfl) .nil ?_
 refine GoS.ret (fn := Try.f33) (v := (.int .i64 (Lib.compareBytes (x.name) (y.name)))) Try.func33 (by kernel_rfl) ?_
 rw [hR]
 exact ⟨rfl, hG11⟩

theorem srtW_c {S : List Nat} {w0 w : World} (v : Value) (l : List WZ) (R : List Row) (hl : l.length ≤ 1000000000) (hn : (l.map (fun z : WZ => z.wd.name)).Nodup) (hone : ∀ x ∈ l, x.toks.oneCell' = true ∧ x.toks.cells = #[x.toks] ∧ x.toks.cells.toList = [x.toks]) (hM : Mem S w0 w (⟨68, 2, v, List.length l, recs wzC l⟩ :: R)) :
  Calls Try.prog 29 #[v, .func (.func 30) #[] #[]] w (fun e w' => e = .returned (.tuple #[]) ∧ Mem S w0 w' (⟨68, 2, v, List.length (isort (fun z : WZ => z.wd.name) l), recs wzC (isort (fun z : WZ => z.wd.name) l)⟩ :: R)) := by
 have key := sort_rowD (ρ := srtWR) (enc := wzC) (key := (fun z : WZ => z.wd.name)) (k := 2) (L := l) srtW_lays Try.isAgg68 Try.sizeOf68 wzC_len (fun x hx u hu => by simp [wzC] at hu; rcases hu with rfl | rfl; rfl; exact (hone x hx).1) hn 30 (Go.Proofs.enters_of Try.func30 (by kernel_rfl) rfl) (fun x hx y hy W => cmpw_c x y (hone x hx) (hone y hy) W) hM (by omega)
 rw [isort_len]
 exact key

theorem srtN_c {S : List Nat} {w0 w : World} (v : Value) (l : List Nm) (R : List Row) (hl : l.length ≤ 1000000000) (hn : (l.map Nm.name).Nodup) (hM : Mem S w0 w (⟨60, 2, v, List.length l, recs nmC l⟩ :: R)) :
  Calls Try.prog 32 #[v, .func (.func 33) #[] #[]] w (fun e w' => e = .returned (.tuple #[]) ∧ Mem S w0 w' (⟨60, 2, v, List.length (isort Nm.name l), recs nmC (isort Nm.name l)⟩ :: R)) := by
 have key := sort_rowD (ρ := srtNR) (enc := nmC) (key := Nm.name) (k := 2) (L := l) srtN_lays Try.isAgg60 Try.sizeOf60 nmC_len (fun x hx => nmC_one x) hn 33 (Go.Proofs.enters_of Try.func33 (by kernel_rfl) rfl) (fun x hx y hy W => cmpn_c x y W) hM (by omega)
 rw [isort_len]
 exact key


end Go.Proofs.Ytcdcehjilneifaa
