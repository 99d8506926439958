/-
  The walk of BufferPieces.
-/
import Derived.Test.YtcdcehjilneifaaPcN
namespace Go.Proofs.Ytcdcehjilneifaa
open Go Go.Gw Go.UtfP Go.TokP Go.PcP Go.RowKit
set_option linter.unusedVariables false
set_option linter.unusedSimpArgs false
set_option maxRecDepth 20000


abbrev uZ0 : List Nat := [1,1,1,1,1]
abbrev uZ1 : List Nat := [1,1,1,1,0]
set_option maxHeartbeats 1000000 in
theorem lpieces_c {w : World} (d : Dc) (fv nv : Value) (hf : Rd w 2 fv d.fields.length (recs fdC d.fields)) (hn : Rd w 2 nv d.nums.length (recs nmC d.nums)) (hsn : (∀ x ∈ d.fields, x.name.length ≤ 9223372036854775807) ∧ ∀ x ∈ d.nums, x.name.length ≤ 9223372036854775807) (hs1 : d.fields.length ≤ 4398046510976) (hs2 : d.nums.length ≤ 5864062014634) :
  Calls Try.prog 3 #[.agg #[sS (d.key), fv, nv]] w (fun e w' => e = .returned (.bool true) ∧ Below w.heap.size w w') := by
 obtain ⟨R, hR⟩ : ∃ R : Ending → World → Prop, R = (fun e w' => e = .returned (.bool true) ∧ Below w.heap.size w w') := ⟨_, rfl⟩
 rw [← hR]
 refine GoS.enter (n := 43) Try.func3 (by kernel_rfl) rfl [(0, .agg #[sS (d.key), fv, nv])] (by kernel_rfl) (by kernel_rfl) ?_
 have hM0 := Mem.start w
 obtain ⟨b1, w2, hr3, hM4⟩ := m_box (T := 25) (k := 3) (u := .agg #[sS (d.key), fv, nv]) rfl rfl hM0
 have hM5 : Mem [] w w2 [⟨25, 3, (obj b1), 1, [sS (d.key), fv, nv]⟩] := hM4
 have o6 : (Instr.box 25 (.agg #[sS (d.key), fv, nv])).run Try.prog w = .ok (pq b1) w2 := hr3
 have o7 : (Instr.loadAt 25 (pq b1)).run Try.prog w2 = .ok (.agg #[sS (d.key), fv, nv]) w2 := c_loads (ys := [sS (d.key), fv, nv]) aE25 (hM5.rd 0 rfl) (cel_obj b1 0) rfl (by intro j u hj; match j, hj with | 0, hj => exact hj | 1, hj => exact hj | 2, hj => exact hj | n + 3, hj => cases hj)
 refine GoS.run [1, 8] [.n, .n, .u (pq b1) (w2), .n, .n, .n, .n, .h (.agg #[sS (d.key), fv, nv])] _ [.inRegion (cops (csub (cd Try.f3) [1,0])) [1,2,3], iC Try.f3 [1,1]] [(1, pq b1), (8, .agg #[sS (d.key), fv, nv])] w2 (by kernel_rfl) (.cons o6 (.cons o7 .nil)) ?_
 refine GoS.call [1] 7 #[.agg #[sS (d.key), fv, nv]] (some 9) [.inRegion (cops (csub (cd Try.f3) [1,0])) [2,3], iC Try.f3 [1,1]] [(1, pq b1)] (by kernel_rfl) (cdoc_c d fv nv (hf.kept0 hM5.kept) (hn.kept0 hM5.kept) hs1 hs2) ?_
 rintro _ w8 ⟨v9, v10, rfl, m11⟩
 refine ⟨_, rfl, ?_⟩
 have hM12 : Mem [] w w8 [⟨57, 2, v9, (List.length (d.fields)), (recs fdC (d.fields))⟩, ⟨60, 2, v10, (List.length (d.nums)), (recs nmC (d.nums))⟩, ⟨25, 3, (obj b1), 1, [sS (d.key), fv, nv]⟩] := Mem.join hM5 m11
 obtain ⟨b13, w14, hr15, hM16⟩ := m_alloc oT25 hM12
 have hM17 : Mem [] w w14 [⟨25, 3, (obj b13), 1, [sS ([]), .slice none 0 0, .slice none 0 0]⟩, ⟨57, 2, v9, (List.length (d.fields)), (recs fdC (d.fields))⟩, ⟨60, 2, v10, (List.length (d.nums)), (recs nmC (d.nums))⟩, ⟨25, 3, (obj b1), 1, [sS (d.key), fv, nv]⟩] := hM16
 obtain ⟨w18, hr19, hM20⟩ := c_stores (ys := [sS (d.key), v9, v10]) aE25 hM17 0 rfl (cel_obj b13 0) rfl (by decide) (by intro u hu; simp at hu; rcases hu with rfl | rfl | rfl <;> first | rfl | exact (rd_one (hM17.rd 1 rfl)) | exact (rd_one (hM17.rd 2 rfl)))
 have hM21 : Mem [] w w18 [⟨25, 3, (obj b13), 1, [sS (d.key), v9, v10]⟩, ⟨57, 2, v9, (List.length (d.fields)), (recs fdC (d.fields))⟩, ⟨60, 2, v10, (List.length (d.nums)), (recs nmC (d.nums))⟩, ⟨25, 3, (obj b1), 1, [sS (d.key), fv, nv]⟩] := hM20
 have o22 : (Instr.storeAt 25 (pq b13) (.agg #[sS (d.key), v9, v10])).run Try.prog w14 = .ok () w18 ∧ undef = undef := ⟨hr19, rfl⟩
 have o23 : (Instr.loadAt 25 (pq b13)).run Try.prog w18 = .ok (.agg #[sS (d.key), v9, v10]) w18 := c_loads (ys := [sS (d.key), v9, v10]) aE25 (hM21.rd 0 rfl) (cel_obj b13 0) rfl (by intro j u hj; match j, hj with | 0, hj => exact hj | 1, hj => exact hj | 2, hj => exact hj | n + 3, hj => cases hj)
 refine GoS.run [1, 3, 11] [.u (pq b13) (w14), .u (undef) (w18), .n, .n, .n, .h (.agg #[sS (d.key), v9, v10])] _ [.inRegion (cops (csub (cd Try.f3) [1,1,0])) [1,2,3,4,5,6,7], iC Try.f3 [1,1,1]] [(1, pq b1), (3, pq b13), (11, .agg #[sS (d.key), v9, v10])] w18 (by kernel_rfl) (.cons hr15 (.cons o22 (.cons o23 .nil))) ?_
 refine GoS.call [1, 3] 8 #[.agg #[sS (d.key), v9, v10]] (some 12) [.inRegion (cops (csub (cd Try.f3) [1,1,0])) [2,3,4,5,6,7], iC Try.f3 [1,1,1]] [(1, pq b1), (3, pq b13)] (by kernel_rfl) (piece_c d v9 v10 (hM21.rd 1 rfl) (hM21.rd 2 rfl)) ?_
 rintro _ w24 ⟨v25, v26, T27, rfl, ho28, m29⟩
 refine ⟨_, rfl, ?_⟩
 have hM30 : Mem [] w w24 (⟨25, 3, (obj b13), 1, [sS (d.key), v9, v10]⟩ :: ⟨57, 2, v9, (List.length (d.fields)), (recs fdC (d.fields))⟩ :: ⟨60, 2, v10, (List.length (d.nums)), (recs nmC (d.nums))⟩ :: ⟨25, 3, (obj b1), 1, [sS (d.key), fv, nv]⟩ :: T27) := joinT0 (R := [⟨25, 3, (obj b13), 1, [sS (d.key), v9, v10]⟩, ⟨57, 2, v9, (List.length (d.fields)), (recs fdC (d.fields))⟩, ⟨60, 2, v10, (List.length (d.nums)), (recs nmC (d.nums))⟩, ⟨25, 3, (obj b1), 1, [sS (d.key), fv, nv]⟩]) hM21 m29
 obtain ⟨b31, w32, hr33, hM34⟩ := m_alloc oT29 hM30
 have hM35 : Mem [] w w32 (⟨29, 3, (obj b31), 1, [sS ([]), .slice none 0 0, .slice none 0 0]⟩ :: ⟨25, 3, (obj b13), 1, [sS (d.key), v9, v10]⟩ :: ⟨57, 2, v9, (List.length (d.fields)), (recs fdC (d.fields))⟩ :: ⟨60, 2, v10, (List.length (d.nums)), (recs nmC (d.nums))⟩ :: ⟨25, 3, (obj b1), 1, [sS (d.key), fv, nv]⟩ :: T27) := hM34
 obtain ⟨w36, hr37, hM38⟩ := c_stores (ys := [sS ((docP d).key), v25, v26]) aE29 hM35 0 rfl (cel_obj b31 0) rfl (by decide) (by intro u hu; simp at hu; rcases hu with rfl | rfl | rfl <;> first | rfl | exact (rdp_one (ho28.rd hM35 (fun r_ h_ => mS (mS (mS (mS (mS (h_)))))))).1.1 | exact (rdp_one (ho28.rd hM35 (fun r_ h_ => mS (mS (mS (mS (mS (h_)))))))).2.1)
 have hM39 : Mem [] w w36 (⟨29, 3, (obj b31), 1, [sS ((docP d).key), v25, v26]⟩ :: ⟨25, 3, (obj b13), 1, [sS (d.key), v9, v10]⟩ :: ⟨57, 2, v9, (List.length (d.fields)), (recs fdC (d.fields))⟩ :: ⟨60, 2, v10, (List.length (d.nums)), (recs nmC (d.nums))⟩ :: ⟨25, 3, (obj b1), 1, [sS (d.key), fv, nv]⟩ :: T27) := hM38
 have o40 : (Instr.storeAt 29 (pq b31) (.agg #[sS ((docP d).key), v25, v26])).run Try.prog w32 = .ok () w36 ∧ undef = undef := ⟨hr37, rfl⟩
 have o41 : (Instr.loadAt 25 (pq b1)).run Try.prog w36 = .ok (.agg #[sS (d.key), fv, nv]) w36 := c_loads (ys := [sS (d.key), fv, nv]) aE25 (hM39.rd 4 rfl) (cel_obj b1 0) rfl (by intro j u hj; match j, hj with | 0, hj => exact hj | 1, hj => exact hj | 2, hj => exact hj | n + 3, hj => cases hj)
 refine GoS.run [1, 3, 4, 5, 16] [.n, .n, .n, .u (pq b31) (w32), .u (undef) (w36), .n, .n, .n, .n, .h (.agg #[sS (d.key), fv, nv])] _ [.inRegion (cops (csub (cd Try.f3) [1,1,1,0])) [1,2,3,4,5,6,7], iC Try.f3 [1,1,1,1]] [(1, pq b1), (3, pq b13), (4, pq b31), (5, .int .i64 (docE d)), (16, .agg #[sS (d.key), fv, nv])] w36 (by kernel_rfl) (.cons hr33 (.cons o40 (.cons o41 .nil))) ?_
 refine GoS.call [1, 3, 4, 5] 9 #[.agg #[sS (d.key), fv, nv]] (some 17) [.inRegion (cops (csub (cd Try.f3) [1,1,1,0])) [2,3,4,5,6,7], iC Try.f3 [1,1,1,1]] [(1, pq b1), (3, pq b13), (4, pq b31), (5, .int .i64 (docE d))] (by kernel_rfl) (rpiece_c d fv nv (hf.kept0 hM39.kept) (hn.kept0 hM39.kept) hsn) ?_
 rintro _ w42 ⟨v43, v44, T45, rfl, ho46, m47⟩
 refine ⟨_, rfl, ?_⟩
 have hM48 : Mem [] w w42 (⟨29, 3, (obj b31), 1, [sS ((docP d).key), v25, v26]⟩ :: ⟨25, 3, (obj b13), 1, [sS (d.key), v9, v10]⟩ :: ⟨57, 2, v9, (List.length (d.fields)), (recs fdC (d.fields))⟩ :: ⟨60, 2, v10, (List.length (d.nums)), (recs nmC (d.nums))⟩ :: ⟨25, 3, (obj b1), 1, [sS (d.key), fv, nv]⟩ :: (T27 ++ T45)) := joinT (R := [⟨29, 3, (obj b31), 1, [sS ((docP d).key), v25, v26]⟩, ⟨25, 3, (obj b13), 1, [sS (d.key), v9, v10]⟩, ⟨57, 2, v9, (List.length (d.fields)), (recs fdC (d.fields))⟩, ⟨60, 2, v10, (List.length (d.nums)), (recs nmC (d.nums))⟩, ⟨25, 3, (obj b1), 1, [sS (d.key), fv, nv]⟩]) (A := T27) hM39 m47
 obtain ⟨b49, w50, hr51, hM52⟩ := m_alloc oT29 hM48
 have hM53 : Mem [] w w50 (⟨29, 3, (obj b49), 1, [sS ([]), .slice none 0 0, .slice none 0 0]⟩ :: ⟨29, 3, (obj b31), 1, [sS ((docP d).key), v25, v26]⟩ :: ⟨25, 3, (obj b13), 1, [sS (d.key), v9, v10]⟩ :: ⟨57, 2, v9, (List.length (d.fields)), (recs fdC (d.fields))⟩ :: ⟨60, 2, v10, (List.length (d.nums)), (recs nmC (d.nums))⟩ :: ⟨25, 3, (obj b1), 1, [sS (d.key), fv, nv]⟩ :: (T27 ++ T45)) := hM52
 obtain ⟨w54, hr55, hM56⟩ := c_stores (ys := [sS ((docP d).key), v43, v44]) aE29 hM53 0 rfl (cel_obj b49 0) rfl (by decide) (by intro u hu; simp at hu; rcases hu with rfl | rfl | rfl <;> first | rfl | exact (rdp_one (ho46.rd hM53 (fun r_ h_ => mS (mS (mS (mS (mS (mS (List.mem_append_right _ (h_)))))))))).1.1 | exact (rdp_one (ho46.rd hM53 (fun r_ h_ => mS (mS (mS (mS (mS (mS (List.mem_append_right _ (h_)))))))))).2.1)
 have hM57 : Mem [] w w54 (⟨29, 3, (obj b49), 1, [sS ((docP d).key), v43, v44]⟩ :: ⟨29, 3, (obj b31), 1, [sS ((docP d).key), v25, v26]⟩ :: ⟨25, 3, (obj b13), 1, [sS (d.key), v9, v10]⟩ :: ⟨57, 2, v9, (List.length (d.fields)), (recs fdC (d.fields))⟩ :: ⟨60, 2, v10, (List.length (d.nums)), (recs nmC (d.nums))⟩ :: ⟨25, 3, (obj b1), 1, [sS (d.key), fv, nv]⟩ :: (T27 ++ T45)) := hM56
 have o58 : (Instr.storeAt 29 (pq b49) (.agg #[sS ((docP d).key), v43, v44])).run Try.prog w50 = .ok () w54 ∧ undef = undef := ⟨hr55, rfl⟩
 refine GoS.run [1, 3, 4, 5, 6, 7] [.n, .n, .n, .u (pq b49) (w50), .u (undef) (w54), .n, .n, .n, .n] _ [.inRegion (cops (csub (cd Try.f3) uZ1)) [0,1,2,3,4,5,6,7,8,9,10,11,12,13,14,15,16,17,18,19,20,21,22,23], iC Try.f3 uZ0] [(1, pq b1), (3, pq b13), (4, pq b31), (5, .int .i64 (docE d)), (6, pq b49), (7, .int .i64 (docE d))] w54 (by kernel_rfl) (.cons hr51 (.cons o58 .nil)) ?_
 refine GoS.call [1, 3, 4, 5, 6, 7] 10 #[] (some 20) [.inRegion (cops (csub (cd Try.f3) uZ1)) [1,2,3,4,5,6,7,8,9,10,11,12,13,14,15,16,17,18,19,20,21,22,23], iC Try.f3 uZ0] [(1, pq b1), (3, pq b13), (4, pq b31), (5, .int .i64 (docE d)), (6, pq b49), (7, .int .i64 (docE d))] (by kernel_rfl) (awake_c w54) ?_
 rintro _ w59 ⟨rfl, m60⟩
 refine ⟨_, rfl, ?_⟩
 have hM61 : Mem [] w w59 (⟨29, 3, (obj b49), 1, [sS ((docP d).key), v43, v44]⟩ :: ⟨29, 3, (obj b31), 1, [sS ((docP d).key), v25, v26]⟩ :: ⟨25, 3, (obj b13), 1, [sS (d.key), v9, v10]⟩ :: ⟨57, 2, v9, (List.length (d.fields)), (recs fdC (d.fields))⟩ :: ⟨60, 2, v10, (List.length (d.nums)), (recs nmC (d.nums))⟩ :: ⟨25, 3, (obj b1), 1, [sS (d.key), fv, nv]⟩ :: (T27 ++ T45)) := Mem.join (R := []) hM57 m60
 have o62 : (IntKind.i64 = IntKind.i64) ∧ w59 = w59 ∧ Value.bool true = .bool ((docE d) == (docE d)) := ⟨rfl, rfl, congrArg Value.bool (Eq.symm (beq_self_eq_true _))⟩
 have o63 : (Instr.loadAt 29 (pq b31)).run Try.prog w59 = .ok (.agg #[sS ((docP d).key), v25, v26]) w59 := c_loads (ys := [sS ((docP d).key), v25, v26]) aE29 (hM61.rd 1 rfl) (cel_obj b31 0) rfl (by intro j u hj; match j, hj with | 0, hj => exact hj | 1, hj => exact hj | 2, hj => exact hj | n + 3, hj => cases hj)
 have o64 : (Instr.loadAt 29 (pq b49)).run Try.prog w59 = .ok (.agg #[sS ((docP d).key), v43, v44]) w59 := c_loads (ys := [sS ((docP d).key), v43, v44]) aE29 (hM61.rd 0 rfl) (cel_obj b49 0) rfl (by intro j u hj; match j, hj with | 0, hj => exact hj | 1, hj => exact hj | 2, hj => exact hj | n + 3, hj => cases hj)
 have hM65 := hM61.sub (sD (sK (sK (sK (sK (sK sR))))))
 refine GoS.run [1, 3, 4, 5, 26, 27, 28] [.n, .n, .n, .h (.bool true), .n, .n, .h (.agg #[sS ((docP d).key), v25, v26]), .h (.agg #[sS ((docP d).key), v43, v44])] _ [.inRegion (cops (csub (cd Try.f3) uZ1)) [9,10,11,12,13,14,15,16,17,18,19,20,21,22,23], iC Try.f3 uZ0] [(1, pq b1), (3, pq b13), (4, pq b31), (5, .int .i64 (docE d)), (26, .bool true), (27, .agg #[sS ((docP d).key), v25, v26]), (28, .agg #[sS ((docP d).key), v43, v44])] w59 (by kernel_rfl) (.cons o62 (.cons o63 (.cons o64 .nil))) ?_
 refine GoS.call [1, 3, 4, 5, 26] 11 #[.agg #[sS ((docP d).key), v25, v26], .agg #[sS ((docP d).key), v43, v44]] (some 29) [.inRegion (cops (csub (cd Try.f3) uZ1)) [10,11,12,13,14,15,16,17,18,19,20,21,22,23], iC Try.f3 uZ0] [(1, pq b1), (3, pq b13), (4, pq b31), (5, .int .i64 (docE d)), (26, .bool true)] (by kernel_rfl) (pone_yes (docP d) v25 v26 v43 v44 (ho28.rd hM65 (fun r_ h_ => mS (mS (mS (mS (mS (List.mem_append_left _ (h_)))))))) (ho46.rd hM65 (fun r_ h_ => mS (mS (mS (mS (mS (List.mem_append_right _ (h_))))))))) ?_
 rintro _ w66 ⟨rfl, m67⟩
 refine ⟨_, rfl, ?_⟩
 have hM68 : Mem [] w w66 (⟨29, 3, (obj b31), 1, [sS ((docP d).key), v25, v26]⟩ :: ⟨25, 3, (obj b13), 1, [sS (d.key), v9, v10]⟩ :: ⟨57, 2, v9, (List.length (d.fields)), (recs fdC (d.fields))⟩ :: ⟨60, 2, v10, (List.length (d.nums)), (recs nmC (d.nums))⟩ :: ⟨25, 3, (obj b1), 1, [sS (d.key), fv, nv]⟩ :: (T27 ++ T45)) := Mem.join (R := []) hM65 m67
 have o69 : (Instr.loadAt 25 (pq b13)).run Try.prog w66 = .ok (.agg #[sS (d.key), v9, v10]) w66 := c_loads (ys := [sS (d.key), v9, v10]) aE25 (hM68.rd 1 rfl) (cel_obj b13 0) rfl (by intro j u hj; match j, hj with | 0, hj => exact hj | 1, hj => exact hj | 2, hj => exact hj | n + 3, hj => cases hj)
 have o70 : (Instr.loadAt 25 (pq b1)).run Try.prog w66 = .ok (.agg #[sS (d.key), fv, nv]) w66 := c_loads (ys := [sS (d.key), fv, nv]) aE25 (hM68.rd 4 rfl) (cel_obj b1 0) rfl (by intro j u hj; match j, hj with | 0, hj => exact hj | 1, hj => exact hj | 2, hj => exact hj | n + 3, hj => cases hj)
 have hM71 := hM68.sub (sK (sD (sK (sK (sD sR)))))
 refine GoS.run [4, 5, 31, 32, 33] [.n, .n, .h (.agg #[sS (d.key), v9, v10]), .h (.agg #[sS (d.key), fv, nv])] _ [.inRegion (cops (csub (cd Try.f3) uZ1)) [14,15,16,17,18,19,20,21,22,23], iC Try.f3 uZ0] [(4, pq b31), (5, .int .i64 (docE d)), (31, .bool true), (32, .agg #[sS (d.key), v9, v10]), (33, .agg #[sS (d.key), fv, nv])] w66 (by kernel_rfl) (.cons o69 (.cons o70 .nil)) ?_
 refine GoS.call [4, 5, 31] 12 #[.agg #[sS (d.key), v9, v10], .agg #[sS (d.key), fv, nv]] (some 34) [.inRegion (cops (csub (cd Try.f3) uZ1)) [15,16,17,18,19,20,21,22,23], iC Try.f3 uZ0] [(4, pq b31), (5, .int .i64 (docE d)), (31, .bool true)] (by kernel_rfl) (sdoc_yes d v9 v10 fv nv (hM71.rd 1 rfl) (hM71.rd 2 rfl) (hf.kept0 hM71.kept) (hn.kept0 hM71.kept)) ?_
 rintro _ w72 ⟨rfl, m73⟩
 refine ⟨_, rfl, ?_⟩
 have hM74 : Mem [] w w72 (⟨29, 3, (obj b31), 1, [sS ((docP d).key), v25, v26]⟩ :: ⟨57, 2, v9, (List.length (d.fields)), (recs fdC (d.fields))⟩ :: ⟨60, 2, v10, (List.length (d.nums)), (recs nmC (d.nums))⟩ :: (T27 ++ T45)) := Mem.join (R := []) hM71 m73
 have o75 : (Instr.loadAt 29 (pq b31)).run Try.prog w72 = .ok (.agg #[sS ((docP d).key), v25, v26]) w72 := c_loads (ys := [sS ((docP d).key), v25, v26]) aE29 (hM74.rd 0 rfl) (cel_obj b31 0) rfl (by intro j u hj; match j, hj with | 0, hj => exact hj | 1, hj => exact hj | 2, hj => exact hj | n + 3, hj => cases hj)
 have hM76 := hM74.sub (sD (sD (sD sR)))
 refine GoS.run [5, 36, 37] [.n, .n, .h (.agg #[sS ((docP d).key), v25, v26])] _ [.inRegion (cops (csub (cd Try.f3) uZ1)) [18,19,20,21,22,23], iC Try.f3 uZ0] [(5, .int .i64 (docE d)), (36, .bool true), (37, .agg #[sS ((docP d).key), v25, v26])] w72 (by kernel_rfl) (.cons o75 .nil) ?_
 refine GoS.call [5, 36] 13 #[.agg #[sS ((docP d).key), v25, v26]] (some 38) [.inRegion (cops (csub (cd Try.f3) uZ1)) [19,20,21,22,23], iC Try.f3 uZ0] [(5, .int .i64 (docE d)), (36, .bool true)] (by kernel_rfl) (check_c (docP d) v25 v26 (ho28.rd hM76 (fun r_ h_ => List.mem_append_left _ (h_))) (Nat.le_trans (docP_small).nums (by decide)) (Nat.le_trans (docP_small).words (by decide))) ?_
 rintro _ w77 ⟨rfl, m78⟩
 refine ⟨_, rfl, ?_⟩
 have hM79 : Mem [] w w77 ((T27 ++ T45)) := Mem.join (R := []) hM76 m78
 have o80 : Try.prog.underlying 4 = some .bool ∧ w77 = w77 ∧ Value.bool true = .bool ((checkP (docP d)) == ((docE d) == 0)) := ⟨by kernel_rfl, rfl, congrArg Value.bool (Eq.symm ((by rw [doc_check]; cases h_ : decide (docE d = 0) with | true => rw [beq_iff_eq.2 (of_decide_eq_true h_)]; rfl | false => rw [beq_eq_false_iff_ne.2 (of_decide_eq_false h_)]; rfl)))⟩
 refine GoS.run [2] [.n, .n, .h (.bool true), .n, .n, .n] _ [iC Try.f3 uZ0] [(2, .bool true)] w77 (by kernel_rfl) (.cons o80 .nil) ?_
 refine GoS.ret (fn := Try.f3) (v := (.bool true)) Try.func3 (by kernel_rfl) ?_
 rw [hR]
 exact ⟨rfl, (hM79.sub sN).below⟩


end Go.Proofs.Ytcdcehjilneifaa
