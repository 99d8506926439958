/-
  The walk of copied.
-/
import Derived.Test.YtcdcehjilneifaaPcH
namespace Go.Proofs.Ytcdcehjilneifaa
open Go Go.Gw Go.UtfP Go.TokP Go.PcP Go.RowKit
set_option linter.unusedVariables false
set_option linter.unusedSimpArgs false
set_option maxRecDepth 20000


abbrev uI0 : List Nat := [1,1,0,1,0,0]
abbrev uI1 : List Nat := [1,1,0,1,0,0,1,1]
set_option maxHeartbeats 1000000 in
theorem copied_L {w0 : World} (p : Pc) (nv wv : Value) (hs : SmallP p) (hn : Rd w0 2 nv p.nums.length (recs nmC p.nums)) (Z : List WZ) (hZ : p.words = Z.map WZ.wd) (hz : Rd w0 2 wv Z.length (recs wzC Z)) (ht : ∀ z ∈ Z, Rd w0 2 z.toks z.wd.toks.length (recs tokc z.wd.toks)) (vN : Value) (br bq : Nat) (R : Ending → World → Prop) (hR : R = (fun e w' => ∃ (nv' wv' : Value) (T : List Row), e = .returned (.agg #[.string (sb p.key), nv', wv']) ∧ OwP 60 68 79 T p nv' wv' ∧ Mem [] w0 w' T)) : ∀ (N : Nat) (vW : Value) (Y : List WZ) (T : List Row) (i : Nat) (w : World) (hi : i ≤ Z.length) (hY : Y.map WZ.wd = (Z.take i).map WZ.wd) (hT : ∀ z ∈ Y, (⟨79, 2, z.toks, z.wd.toks.length, recs tokc z.wd.toks⟩ : Row) ∈ T) (hM : Mem [] w0 w (⟨68, 2, vW, (List.length Y), (recs wzC Y)⟩ :: ⟨60, 2, vN, (List.length (p.nums)), (recs nmC (p.nums))⟩ :: ⟨29, 3, (obj br), 1, [.string (sb ([])), .slice none 0 0, .slice none 0 0]⟩ :: ⟨29, 3, (obj bq), 1, [.string (sb (p.key)), vN, vW]⟩ :: T)) (hN : Z.length - i < N), GoS Try.prog 41 R 34 [.code (csub (cd Try.f41) uI0), .inLoop (csub (cd Try.f41) uI0), .inBlock 0, .code (csub (cd Try.f41) [1,1,1])] [(2, pq br), (3, pq bq), (14, wv), (15, .int .i64 (((List.length Z) : Nat) : Int)), (16, .int .i64 ((i : Nat) : Int))] w := by
 intro N
 induction N with
 | zero => intro vW Y T i w hi hY hT hM hN; exact absurd hN (Nat.not_lt_zero _)
 | succ N ih =>
  intro vW Y T i w hi hY hT hM hN
  have hs1 := hs.nums
  have hs2 := hs.words
  rw [hZ, List.length_map] at hs2
  have hYl : Y.length = i := by have z := congrArg List.length hY; simp only [List.length_map, List.length_take] at z; omega
  refine GoS.run [2, 3, 14, 15, 16, 17] [.n, .n, .n, .n, .n] _ [.code (csub (cd Try.f41) [1,1,0,1,0,0,1,0]), .code (csub (cd Try.f41) uI1), .inLoop (csub (cd Try.f41) uI0), .inBlock 0, .code (csub (cd Try.f41) [1,1,1])] [(2, pq br), (3, pq bq), (14, wv), (15, .int .i64 (((List.length Z) : Nat) : Int)), (16, .int .i64 ((i : Nat) : Int)), (17, .bool (decide (((i : Nat) : Int) < (((List.length Z) : Nat) : Int))))] w (by kernel_rfl) .nil ?_
  refine GoS.cond (decide (((i : Nat) : Int) < (((List.length Z) : Nat) : Int))) [.code (csub (cd Try.f41) [1,1,0,1,0,0,1,0,0]), .code (csub (cd Try.f41) uI1), .inLoop (csub (cd Try.f41) uI0), .inBlock 0, .code (csub (cd Try.f41) [1,1,1])] [.code (csub (cd Try.f41) [1,1,0,1,0,0,1,0,1]), .code (csub (cd Try.f41) uI1), .inLoop (csub (cd Try.f41) uI0), .inBlock 0, .code (csub (cd Try.f41) [1,1,1])] (by kernel_rfl) (fun h1 => ?_) (fun h1 => ?_)
  ·
   have h1p : ((i : Nat) : Int) < (((List.length Z) : Nat) : Int) := of_decide_eq_true h1
   refine GoS.run [2, 3, 14, 15, 16] [.n] _ [.code (csub (cd Try.f41) uI1), .inLoop (csub (cd Try.f41) uI0), .inBlock 0, .code (csub (cd Try.f41) [1,1,1])] [(2, pq br), (3, pq bq), (14, wv), (15, .int .i64 (((List.length Z) : Nat) : Int)), (16, .int .i64 ((i : Nat) : Int))] w (by kernel_rfl) .nil ?_
   obtain ⟨p9, hp10, hq11⟩ := rd_at (i := ((i : Nat) : Int)) sT27 (hz.kept0 hM.kept) i (by omega) (by first | omega | (dsimp only; omega))
   have o21 : (Instr.indexAt 27 (wv) (.int .i64 ((i : Nat) : Int))).run Try.prog w = .ok (.pointer (some p9)) w := hq11 _ _
   have o22 : (Instr.loadAt 68 (.pointer (some p9))).run Try.prog w = .ok (.agg #[.string (sb ((List.getD Z i wz).wd.name)), ((List.getD Z i wz).toks)]) w := r_loads (f := wzC) (l := Z) aE68 (hz.kept0 hM.kept) wzC_len hp10 (by first | omega | (dsimp only; omega)) wz
   obtain ⟨b12, w13, hr14, hM15⟩ := m_alloc oT68 hM
   have hM16 : Mem [] w0 w13 (⟨68, 2, (obj b12), 1, [.string (sb ([])), .slice none 0 0]⟩ :: ⟨68, 2, vW, (List.length Y), (recs wzC Y)⟩ :: ⟨60, 2, vN, (List.length (p.nums)), (recs nmC (p.nums))⟩ :: ⟨29, 3, (obj br), 1, [.string (sb ([])), .slice none 0 0, .slice none 0 0]⟩ :: ⟨29, 3, (obj bq), 1, [.string (sb (p.key)), vN, vW]⟩ :: T) := hM15
   obtain ⟨w17, hr18, hM19⟩ := c_stores (ys := [.string (sb ((List.getD Z i wz).wd.name)), ((List.getD Z i wz).toks)]) aE68 hM16 0 rfl (cel_obj b12 0) rfl (by decide) (by intro u hu; simp at hu; rcases hu with rfl | rfl <;> first | rfl | exact (rd_one ((ht (List.getD Z i wz) (getD_mem (by omega))).kept0 hM16.kept)))
   have hM20 : Mem [] w0 w17 (⟨68, 2, (obj b12), 1, [.string (sb ((List.getD Z i wz).wd.name)), ((List.getD Z i wz).toks)]⟩ :: ⟨68, 2, vW, (List.length Y), (recs wzC Y)⟩ :: ⟨60, 2, vN, (List.length (p.nums)), (recs nmC (p.nums))⟩ :: ⟨29, 3, (obj br), 1, [.string (sb ([])), .slice none 0 0, .slice none 0 0]⟩ :: ⟨29, 3, (obj bq), 1, [.string (sb (p.key)), vN, vW]⟩ :: T) := hM19
   have o23 : (Instr.storeAt 68 (pq b12) (.agg #[.string (sb ((List.getD Z i wz).wd.name)), ((List.getD Z i wz).toks)])).run Try.prog w13 = .ok () w17 ∧ undef = undef := ⟨hr18, rfl⟩
   refine GoS.run [2, 3, 5, 14, 15, 16] [.n, .n, .n, .n, .h (.pointer (some p9)), .h (.agg #[.string (sb ((List.getD Z i wz).wd.name)), ((List.getD Z i wz).toks)]), .u (pq b12) (w13), .u (undef) (w17), .n] _ [.code (csub (cd Try.f41) [1,1,0,1,0,0,1,1,0,0,1]), .inBlock 1, .code (csub (cd Try.f41) [1,1,0,1,0,0,1,1,1]), .inLoop (csub (cd Try.f41) uI0), .inBlock 0, .code (csub (cd Try.f41) [1,1,1])] [(2, pq br), (3, pq bq), (5, pq b12), (14, wv), (15, .int .i64 (((List.length Z) : Nat) : Int)), (16, .int .i64 ((i : Nat) : Int))] w17 (by kernel_rfl) (.cons o21 (.cons o22 (.cons hr14 (.cons o23 .nil)))) ?_
   obtain ⟨w24, hw25⟩ : ∃ w_, (w17).drewN 1 = w_ := ⟨_, rfl⟩
   refine GoS.held (fun W_ => Mem [] w0 W_ (⟨68, 2, (obj b12), 1, [.string (sb ((List.getD Z i wz).wd.name)), ((List.getD Z i wz).toks)]⟩ :: ⟨60, 2, vN, (List.length (p.nums)), (recs nmC (p.nums))⟩ :: ⟨29, 3, (obj br), 1, [.string (sb ([])), .slice none 0 0, .slice none 0 0]⟩ :: ⟨29, 3, (obj bq), 1, [.string (sb (p.key)), vN, vW]⟩ :: T)) [12] 5 (by kernel_rfl) (by kernel_rfl) 13 (by kernel_rfl) ?_
   rw [hw25]
   have hM26 : Mem [] w0 w24 (⟨68, 2, (obj b12), 1, [.string (sb ((List.getD Z i wz).wd.name)), ((List.getD Z i wz).toks)]⟩ :: ⟨68, 2, vW, (List.length Y), (recs wzC Y)⟩ :: ⟨60, 2, vN, (List.length (p.nums)), (recs nmC (p.nums))⟩ :: ⟨29, 3, (obj br), 1, [.string (sb ([])), .slice none 0 0, .slice none 0 0]⟩ :: ⟨29, 3, (obj bq), 1, [.string (sb (p.key)), vN, vW]⟩ :: T) := hw25 ▸ hM20.ext (Kept.drewN _ _ 1)
   have hS27 := hM26.sub (sK (sD (sK (sK (sK sR)))))
   refine GoH.takeV 0 (.pointer (some (⟨bq, 2, none⟩))) (.pointer (some (⟨bq, 2, none⟩))) (some 20) (fun W_ => by kernel_rfl) rfl hS27 ?_
   refine GoH.takeF 1 (vW) (fun W_ => (Instr.loadAt 27 (.pointer (some (⟨bq, 2, none⟩)))).run Try.prog W_ = .ok (vW) W_) (some 21) (fun W_ => by kernel_rfl) (fun W_ hW_ => c_load pE27 (hW_.rd 3 rfl) (cel_obj bq 2) rfl) hS27 ?_
   refine GoH.takeV 2 (pq b12) (pq b12) (some 22) (fun W_ => by kernel_rfl) rfl hS27 ?_
   refine GoH.takeF 3 (.string (sb ((List.getD Z i wz).wd.name))) (fun W_ => (Instr.loadAt 9 (pq b12)).run Try.prog W_ = .ok (.string (sb ((List.getD Z i wz).wd.name))) W_) (some 23) (fun W_ => by kernel_rfl) (fun W_ hW_ => c_load pE9 (hW_.rd 0 rfl) (cel_obj b12 0) rfl) hS27 ?_
   refine GoH.takeV 5 (.pointer (some (⟨b12, 1, none⟩))) (.pointer (some (⟨b12, 1, none⟩))) (some 25) (fun W_ => by kernel_rfl) rfl hS27 ?_
   refine GoH.takeF 6 (((List.getD Z i wz).toks)) (fun W_ => (Instr.loadAt 64 (.pointer (some (⟨b12, 1, none⟩)))).run Try.prog W_ = .ok (((List.getD Z i wz).toks)) W_) (some 26) (fun W_ => by kernel_rfl) (fun W_ hW_ => c_load pE64 (hW_.rd 0 rfl) (cel_obj b12 1) rfl) hS27 ?_
   obtain ⟨v28, w29, hr30, hM31⟩ := m_lit sT64 hM26 (n := 0) (parts := #[]) (cs := []) (by decide) (by kernel_rfl) rfl
   have hS32 := hM31.sub (sD (sK (sD (sK (sK (sK sR))))))
   refine GoH.stepF 4 (v28) (w29) ((Instr.buildSlice 64 0 #[]).run Try.prog w24 = .ok v28 w29) (some 24) (by kernel_rfl) (hr30) (.inr hS32) ?_
   obtain ⟨v33, w34, hr35, hM36⟩ := m_append sT64 hM31 0 rfl ((ht (List.getD Z i wz) (getD_mem (by omega))).kept0 hM31.kept) (recs_ones tokc_one ((List.getD Z i wz).wd.toks)) (by first | omega | (dsimp only; omega) | (have z := small_at hs hZ (i := i) (by omega); (try dsimp only); omega)) (by first | omega | (dsimp only; omega) | (have z := small_at hs hZ (i := i) (by omega); (try dsimp only); omega)) 64
   have hM37 : Mem [] w0 w34 (⟨79, 2, v33, (List.length ((List.getD Z i wz).wd.toks)), (recs tokc ((List.getD Z i wz).wd.toks))⟩ :: ⟨68, 2, (obj b12), 1, [.string (sb ((List.getD Z i wz).wd.name)), ((List.getD Z i wz).toks)]⟩ :: ⟨68, 2, vW, (List.length Y), (recs wzC Y)⟩ :: ⟨60, 2, vN, (List.length (p.nums)), (recs nmC (p.nums))⟩ :: ⟨29, 3, (obj br), 1, [.string (sb ([])), .slice none 0 0, .slice none 0 0]⟩ :: ⟨29, 3, (obj bq), 1, [.string (sb (p.key)), vN, vW]⟩ :: T) := hM36.cast (by simp [ivals, svals, bvals, nvals, u8s, Nat.add_assoc, recs, tokc])
   have hS38 := hM37.sub (sD (sK (sD (sK (sK (sK sR))))))
   refine GoH.stepF 7 (v33) (w34) ((Builtin.append_ #[64, 64] 64 #[v28, ((List.getD Z i wz).toks)]).run Try.prog w29 = .ok v33 w34) (some 27) (by kernel_rfl) (hr35) (.inr hS38) ?_
   have hS39 := hM37.sub (sD (sK (sD (sK (sK (sK sR))))))
   refine GoH.stepF 8 (.agg #[.string (sb ((List.getD Z i wz).wd.name)), v33]) (w34) ((Instr.build 68 #[(0, .string (sb ((List.getD Z i wz).wd.name))), (1, v33)]).run Try.prog w34 = .ok (.agg #[.string (sb ((List.getD Z i wz).wd.name)), v33]) w34) (some 28) (by kernel_rfl) ((by obtain ⟨a0_, m0_, c0_, e0_⟩ : ∃ a m c, v33 = Value.slice a m c := rd_form (hM37.rd 0 rfl); rw [e0_]; kernel_rfl)) (.inr hS39) ?_
   obtain ⟨v40, w41, hr42, hM43⟩ := m_lit sT27 hM37 (n := 1) (parts := #[(0, .agg #[.string (sb ((List.getD Z i wz).wd.name)), v33])]) (cs := [.string (sb ((List.getD Z i wz).wd.name)), v33]) (by decide) (by kernel_rfl) rfl
   have hS44 := hM43.sub (sD (sD (sK (sD (sK (sK (sK sR)))))))
   refine GoH.stepF 9 (v40) (w41) ((Instr.buildSlice 27 1 #[(0, .agg #[.string (sb ((List.getD Z i wz).wd.name)), v33])]).run Try.prog w34 = .ok v40 w41) (some 29) (by kernel_rfl) (hr42) (.inr hS44) ?_
   obtain ⟨v45, w46, hr47, hM48⟩ := m_append sT27 hM43 3 rfl (hM43.rd 0 rfl) (by intro u hu; simp only [List.mem_cons, List.not_mem_nil, or_false] at hu; rcases hu with rfl | rfl; exact rfl; exact (rd_one (hM43.rd 1 rfl))) (by first | omega | (dsimp only; omega) | (have z := small_at hs hZ (i := i) (by omega); (try dsimp only); omega)) (by first | omega | (dsimp only; omega) | (have z := small_at hs hZ (i := i) (by omega); (try dsimp only); omega)) 27
   have hM49 : Mem [] w0 w46 (⟨68, 2, v40, 1, [.string (sb ((List.getD Z i wz).wd.name)), v33]⟩ :: ⟨79, 2, v33, (List.length ((List.getD Z i wz).wd.toks)), (recs tokc ((List.getD Z i wz).wd.toks))⟩ :: ⟨68, 2, (obj b12), 1, [.string (sb ((List.getD Z i wz).wd.name)), ((List.getD Z i wz).toks)]⟩ :: ⟨68, 2, v45, (List.length (Y ++ ([(WZ.mk (Wd.mk ((List.getD Z i wz).wd.name) ((List.getD Z i wz).wd.toks)) v33)] : List WZ))), (recs wzC (Y ++ ([(WZ.mk (Wd.mk ((List.getD Z i wz).wd.name) ((List.getD Z i wz).wd.toks)) v33)] : List WZ)))⟩ :: ⟨60, 2, vN, (List.length (p.nums)), (recs nmC (p.nums))⟩ :: ⟨29, 3, (obj br), 1, [.string (sb ([])), .slice none 0 0, .slice none 0 0]⟩ :: ⟨29, 3, (obj bq), 1, [.string (sb (p.key)), vN, vW]⟩ :: T) := hM48.cast (by simp [ivals, svals, bvals, nvals, u8s, Nat.add_assoc, recs, wzC])
   have hS50 := hM49.sub (sD (sD (sK (sD (sK (sK (sK sR)))))))
   refine GoH.stepF 10 (v45) (w46) ((Builtin.append_ #[27, 27] 27 #[vW, v40]).run Try.prog w41 = .ok v45 w46) (some 30) (by kernel_rfl) (hr47) (.inr hS50) ?_
   refine GoH.takeV 11 (.pointer (some (⟨bq, 2, none⟩))) (.pointer (some (⟨bq, 2, none⟩))) (some 31) (fun W_ => by kernel_rfl) rfl hS50 ?_
   obtain ⟨w51, hr52, hM53⟩ := c_store (u := v45) (by kernel_rfl) hM49 6 rfl (cel_obj bq 2) (by decide) (rd_one (hM49.rd 3 rfl)) (rd_cells (hM49.rd 3 rfl))
   have hM54 : Mem [] w0 w51 (⟨68, 2, v40, 1, [.string (sb ((List.getD Z i wz).wd.name)), v33]⟩ :: ⟨79, 2, v33, (List.length ((List.getD Z i wz).wd.toks)), (recs tokc ((List.getD Z i wz).wd.toks))⟩ :: ⟨68, 2, (obj b12), 1, [.string (sb ((List.getD Z i wz).wd.name)), ((List.getD Z i wz).toks)]⟩ :: ⟨68, 2, v45, (List.length (Y ++ ([(WZ.mk (Wd.mk ((List.getD Z i wz).wd.name) ((List.getD Z i wz).wd.toks)) v33)] : List WZ))), (recs wzC (Y ++ ([(WZ.mk (Wd.mk ((List.getD Z i wz).wd.name) ((List.getD Z i wz).wd.toks)) v33)] : List WZ)))⟩ :: ⟨60, 2, vN, (List.length (p.nums)), (recs nmC (p.nums))⟩ :: ⟨29, 3, (obj br), 1, [.string (sb ([])), .slice none 0 0, .slice none 0 0]⟩ :: ⟨29, 3, (obj bq), 1, [.string (sb (p.key)), vN, v45]⟩ :: T) := hM53
   refine GoH.stepF 12 (undef) (w51) ((Instr.storeAt 27 (.pointer (some (⟨bq, 2, none⟩))) (v45)).run Try.prog w46 = .ok () w51 ∧ undef = undef) none (by kernel_rfl) (⟨hr52, rfl⟩) (.inl rfl) ?_
   refine GoH.done [2, 3, 14, 15, 16] [(2, pq br), (3, pq bq), (14, wv), (15, .int .i64 (((List.length Z) : Nat) : Int)), (16, .int .i64 ((i : Nat) : Int))] (by kernel_rfl) (by kernel_rfl) ?_
   have hM55 := hM54.sub (sD (sK (sD (sK (sK (sK (sK sR)))))))
   have o56 : (binOp .add 3 (.int .i64 ((i : Nat) : Int)) (.int .i64 1)).run Try.prog w51 = .ok (.int .i64 (((i + 1) : Nat) : Int)) w51 := f_add (by rw [show ((i : Nat) : Int) + 1 = (((i + 1) : Nat) : Int) by omega]; exact IntWalk.i64_in _ (by omega))
   refine GoS.run [2, 3, 14, 15, 16] [.n, .n, .h (.int .i64 (((i + 1) : Nat) : Int)), .n, .n, .n] _ [.code (csub (cd Try.f41) uI0), .inLoop (csub (cd Try.f41) uI0), .inBlock 0, .code (csub (cd Try.f41) [1,1,1])] [(2, pq br), (3, pq bq), (14, wv), (15, .int .i64 (((List.length Z) : Nat) : Int)), (16, .int .i64 (((i + 1) : Nat) : Int))] w51 (by kernel_rfl) (.cons o56 .nil) ?_
   have hM57 : Mem [] w0 w51 (⟨29, 3, (obj bq), 1, [.string (sb (p.key)), vN, v45]⟩ :: ⟨79, 2, v33, (List.length ((List.getD Z i wz).wd.toks)), (recs tokc ((List.getD Z i wz).wd.toks))⟩ :: ⟨68, 2, v45, (List.length (Y ++ ([(WZ.mk (Wd.mk ((List.getD Z i wz).wd.name) ((List.getD Z i wz).wd.toks)) v33)] : List WZ))), (recs wzC (Y ++ ([(WZ.mk (Wd.mk ((List.getD Z i wz).wd.name) ((List.getD Z i wz).wd.toks)) v33)] : List WZ)))⟩ :: ⟨60, 2, vN, (List.length (p.nums)), (recs nmC (p.nums))⟩ :: ⟨29, 3, (obj br), 1, [.string (sb ([])), .slice none 0 0, .slice none 0 0]⟩ :: T) := hM55.perm ((List.Perm.cons _ ((List.Perm.cons _ ((List.Perm.cons _ ((List.Perm.cons _ (List.Perm.refl _)).trans (List.Perm.swap _ _ _))).trans (List.Perm.swap _ _ _))).trans (List.Perm.swap _ _ _))).trans (List.Perm.swap _ _ _))
   have hM58 : Mem [] w0 w51 (⟨29, 3, (obj br), 1, [.string (sb ([])), .slice none 0 0, .slice none 0 0]⟩ :: ⟨29, 3, (obj bq), 1, [.string (sb (p.key)), vN, v45]⟩ :: ⟨79, 2, v33, (List.length ((List.getD Z i wz).wd.toks)), (recs tokc ((List.getD Z i wz).wd.toks))⟩ :: ⟨68, 2, v45, (List.length (Y ++ ([(WZ.mk (Wd.mk ((List.getD Z i wz).wd.name) ((List.getD Z i wz).wd.toks)) v33)] : List WZ))), (recs wzC (Y ++ ([(WZ.mk (Wd.mk ((List.getD Z i wz).wd.name) ((List.getD Z i wz).wd.toks)) v33)] : List WZ)))⟩ :: ⟨60, 2, vN, (List.length (p.nums)), (recs nmC (p.nums))⟩ :: T) := hM57.perm ((List.Perm.cons _ ((List.Perm.cons _ ((List.Perm.cons _ ((List.Perm.cons _ (List.Perm.refl _)).trans (List.Perm.swap _ _ _))).trans (List.Perm.swap _ _ _))).trans (List.Perm.swap _ _ _))).trans (List.Perm.swap _ _ _))
   have hM59 : Mem [] w0 w51 (⟨60, 2, vN, (List.length (p.nums)), (recs nmC (p.nums))⟩ :: ⟨29, 3, (obj br), 1, [.string (sb ([])), .slice none 0 0, .slice none 0 0]⟩ :: ⟨29, 3, (obj bq), 1, [.string (sb (p.key)), vN, v45]⟩ :: ⟨79, 2, v33, (List.length ((List.getD Z i wz).wd.toks)), (recs tokc ((List.getD Z i wz).wd.toks))⟩ :: ⟨68, 2, v45, (List.length (Y ++ ([(WZ.mk (Wd.mk ((List.getD Z i wz).wd.name) ((List.getD Z i wz).wd.toks)) v33)] : List WZ))), (recs wzC (Y ++ ([(WZ.mk (Wd.mk ((List.getD Z i wz).wd.name) ((List.getD Z i wz).wd.toks)) v33)] : List WZ)))⟩ :: T) := hM58.perm ((List.Perm.cons _ ((List.Perm.cons _ ((List.Perm.cons _ ((List.Perm.cons _ (List.Perm.refl _)).trans (List.Perm.swap _ _ _))).trans (List.Perm.swap _ _ _))).trans (List.Perm.swap _ _ _))).trans (List.Perm.swap _ _ _))
   have hM60 : Mem [] w0 w51 (⟨68, 2, v45, (List.length (Y ++ ([(WZ.mk (Wd.mk ((List.getD Z i wz).wd.name) ((List.getD Z i wz).wd.toks)) v33)] : List WZ))), (recs wzC (Y ++ ([(WZ.mk (Wd.mk ((List.getD Z i wz).wd.name) ((List.getD Z i wz).wd.toks)) v33)] : List WZ)))⟩ :: ⟨60, 2, vN, (List.length (p.nums)), (recs nmC (p.nums))⟩ :: ⟨29, 3, (obj br), 1, [.string (sb ([])), .slice none 0 0, .slice none 0 0]⟩ :: ⟨29, 3, (obj bq), 1, [.string (sb (p.key)), vN, v45]⟩ :: ⟨79, 2, v33, (List.length ((List.getD Z i wz).wd.toks)), (recs tokc ((List.getD Z i wz).wd.toks))⟩ :: T) := hM59.perm ((List.Perm.cons _ ((List.Perm.cons _ ((List.Perm.cons _ ((List.Perm.cons _ (List.Perm.refl _)).trans (List.Perm.swap _ _ _))).trans (List.Perm.swap _ _ _))).trans (List.Perm.swap _ _ _))).trans (List.Perm.swap _ _ _))
   exact ih v45 (Y ++ ([(WZ.mk (Wd.mk ((List.getD Z i wz).wd.name) ((List.getD Z i wz).wd.toks)) v33)] : List WZ)) (⟨79, 2, v33, (List.length ((List.getD Z i wz).wd.toks)), (recs tokc ((List.getD Z i wz).wd.toks))⟩ :: T) (i + 1) _ (by omega) (wz_snoc hY (by omega)) (fun z hz => by rcases List.mem_append.1 hz with g | g; exact mS (hT z g); obtain rfl := List.mem_singleton.1 g; exact List.mem_cons_self ..) (hM60.sub (sK (sK (sK (sK (sK sR)))))) (by omega)
  ·
   have h1p : ¬ (((i : Nat) : Int) < (((List.length Z) : Nat) : Int)) := of_decide_eq_false h1
   have o6 : (Instr.loadAt 29 (pq bq)).run Try.prog w = .ok (.agg #[.string (sb (p.key)), vN, vW]) w := c_loads (ys := [.string (sb (p.key)), vN, vW]) aE29 (hM.rd 3 rfl) (cel_obj bq 0) rfl (by intro j u hj; match j, hj with | 0, hj => exact hj | 1, hj => exact hj | 2, hj => exact hj | n + 3, hj => cases hj)
   obtain ⟨w2, hr3, hM4⟩ := c_stores (ys := [.string (sb (p.key)), vN, vW]) aE29 hM 2 rfl (cel_obj br 0) rfl (by decide) (by intro u hu; simp at hu; rcases hu with rfl | rfl | rfl <;> first | rfl | exact (rd_one (hM.rd 1 rfl)) | exact (rd_one (hM.rd 0 rfl)))
   have hM5 : Mem [] w0 w2 (⟨68, 2, vW, (List.length Y), (recs wzC Y)⟩ :: ⟨60, 2, vN, (List.length (p.nums)), (recs nmC (p.nums))⟩ :: ⟨29, 3, (obj br), 1, [.string (sb (p.key)), vN, vW]⟩ :: ⟨29, 3, (obj bq), 1, [.string (sb (p.key)), vN, vW]⟩ :: T) := hM4
   have o7 : (Instr.storeAt 29 (pq br) (.agg #[.string (sb (p.key)), vN, vW])).run Try.prog w = .ok () w2 ∧ undef = undef := ⟨hr3, rfl⟩
   refine GoS.run [2] [.n, .n, .n, .h (.agg #[.string (sb (p.key)), vN, vW]), .u (undef) (w2), .n] _ [.code (csub (cd Try.f41) [1,1,1,1])] [(2, pq br)] w2 (by kernel_rfl) (.cons o6 (.cons o7 .nil)) ?_
   have o8 : (Instr.loadAt 29 (pq br)).run Try.prog w2 = .ok (.agg #[.string (sb (p.key)), vN, vW]) w2 := c_loads (ys := [.string (sb (p.key)), vN, vW]) aE29 (hM5.rd 2 rfl) (cel_obj br 0) rfl (by intro j u hj; match j, hj with | 0, hj => exact hj | 1, hj => exact hj | 2, hj => exact hj | n + 3, hj => cases hj)
   refine GoS.retC (fn := Try.f41) (rs := [.cell 2 29]) [.agg #[.string (sb (p.key)), vN, vW]] (v := (.agg #[.string (sb (p.key)), vN, vW])) Try.func41 (by kernel_rfl) (ResC.cell (by kernel_rfl) o8 ResC.nil) rfl ?_
   rw [hR]
   exact ⟨_, _, ⟨68, 2, vW, (List.length Y), (recs wzC Y)⟩ :: ⟨60, 2, vN, (List.length (p.nums)), (recs nmC (p.nums))⟩ :: T, rfl, ⟨mS (List.mem_cons_self ..), Y, by rw [hY, hZ, take_all' (by omega)], List.mem_cons_self .., fun z hz => mS (mS (hT z hz))⟩, hM5.sub (sK (sK (sD (sD sR))))⟩

set_option maxHeartbeats 400000 in
theorem copied_c {w : World} (p : Pc) (nv wv : Value) (hs : SmallP p) (hp : RdP w p nv wv) :
  Calls Try.prog 41 #[.agg #[.string (sb (p.key)), nv, wv]] w (fun e w' => ∃ (nv' wv' : Value) (T : List Row), e = .returned (.agg #[.string (sb p.key), nv', wv']) ∧ OwP 60 68 79 T p nv' wv' ∧ Mem [] w w' T) := by
 obtain ⟨hn, Z, hZ, hz, ht⟩ := hp
 have hs1 := hs.nums
 have hs2 := hs.words
 rw [hZ, List.length_map] at hs2
 obtain ⟨R, hR⟩ : ∃ R : Ending → World → Prop, R = (fun e w' => ∃ (nv' wv' : Value) (T : List Row), e = .returned (.agg #[.string (sb p.key), nv', wv']) ∧ OwP 60 68 79 T p nv' wv' ∧ Mem [] w w' T) := ⟨_, rfl⟩
 rw [← hR]
 refine GoS.enter (n := 34) Try.func41 (by kernel_rfl) rfl [(0, .agg #[.string (sb (p.key)), nv, wv])] (by kernel_rfl) (by kernel_rfl) ?_
 have hM0 := Mem.start w
 obtain ⟨b1, w2, hr3, hM4⟩ := m_box (T := 29) (k := 3) (u := .agg #[.string (sb (p.key)), nv, wv]) rfl rfl hM0
 have hM5 : Mem [] w w2 [⟨29, 3, (obj b1), 1, [.string (sb (p.key)), nv, wv]⟩] := hM4
 have o11 : (Instr.box 29 (.agg #[.string (sb (p.key)), nv, wv])).run Try.prog w = .ok (pq b1) w2 := hr3
 obtain ⟨b6, w7, hr8, hM9⟩ := m_alloc oT29 hM5
 have hM10 : Mem [] w w7 [⟨29, 3, (obj b6), 1, [.string (sb ([])), .slice none 0 0, .slice none 0 0]⟩, ⟨29, 3, (obj b1), 1, [.string (sb (p.key)), nv, wv]⟩] := hM9
 refine GoS.run [1, 2] [.n, .n, .u (pq b1) (w2), .u (pq b6) (w7), .n, .n] _ [.code (csub (cd Try.f41) [1,0]), .code (csub (cd Try.f41) [1,1])] [(1, pq b1), (2, pq b6)] w7 (by kernel_rfl) (.cons o11 (.cons hr8 .nil)) ?_
 obtain ⟨w12, hw13⟩ : ∃ w_, (w7).drewN 1 = w_ := ⟨_, rfl⟩
 refine GoS.held (fun W_ => Mem [] w W_ [⟨29, 3, (obj b6), 1, [.string (sb ([])), .slice none 0 0, .slice none 0 0]⟩, ⟨29, 3, (obj b1), 1, [.string (sb (p.key)), nv, wv]⟩]) [8] 1 (by kernel_rfl) (by kernel_rfl) 9 (by kernel_rfl) ?_
 rw [hw13]
 have hM14 : Mem [] w w12 [⟨29, 3, (obj b6), 1, [.string (sb ([])), .slice none 0 0, .slice none 0 0]⟩, ⟨29, 3, (obj b1), 1, [.string (sb (p.key)), nv, wv]⟩] := hw13 ▸ hM10.ext (Kept.drewN _ _ 1)
 have hS15 := hM14.sub (sK (sK sR))
 refine GoH.takeV 0 (pq b1) (pq b1) (some 6) (fun W_ => by kernel_rfl) rfl hS15 ?_
 refine GoH.takeF 1 (.string (sb (p.key))) (fun W_ => (Instr.loadAt 9 (pq b1)).run Try.prog W_ = .ok (.string (sb (p.key))) W_) (some 7) (fun W_ => by kernel_rfl) (fun W_ hW_ => c_load pE9 (hW_.rd 1 rfl) (cel_obj b1 0) rfl) hS15 ?_
 refine GoH.takeV 3 (.pointer (some (⟨b1, 1, none⟩))) (.pointer (some (⟨b1, 1, none⟩))) (some 9) (fun W_ => by kernel_rfl) rfl hS15 ?_
 refine GoH.takeF 4 (nv) (fun W_ => (Instr.loadAt 23 (.pointer (some (⟨b1, 1, none⟩)))).run Try.prog W_ = .ok (nv) W_) (some 10) (fun W_ => by kernel_rfl) (fun W_ hW_ => c_load pE23 (hW_.rd 1 rfl) (cel_obj b1 1) rfl) hS15 ?_
 refine GoH.each [2, 7] (by kernel_rfl) (by kernel_rfl) ⟨?_, ?_, trivial⟩
 ·
  obtain ⟨v16, w17, hr18, hM19⟩ := m_lit sT23 hM14 (n := 0) (parts := #[]) (cs := []) (by decide) (by kernel_rfl) rfl
  have hS20 := hM19.sub (sD (sK (sK sR)))
  refine GoI.stepF 2 (v16) (w17) ((Instr.buildSlice 23 0 #[]).run Try.prog w12 = .ok v16 w17) (some 8) (by kernel_rfl) (hr18) (.inr hS20) ?_
  refine GoH.each [5, 7] (by kernel_rfl) (by kernel_rfl) ⟨?_, ?_, trivial⟩
  ·
   obtain ⟨v21, w22, hr23, hM24⟩ := m_append sT23 hM19 0 rfl (hn.kept0 hM19.kept) (recs_ones nmC_one (p.nums)) (by first | omega | (dsimp only; omega) | (have z := small_at hs hZ (i := i) (by omega); (try dsimp only); omega)) (by first | omega | (dsimp only; omega) | (have z := small_at hs hZ (i := i) (by omega); (try dsimp only); omega)) 23
   have hM25 : Mem [] w w22 [⟨60, 2, v21, (List.length (p.nums)), (recs nmC (p.nums))⟩, ⟨29, 3, (obj b6), 1, [.string (sb ([])), .slice none 0 0, .slice none 0 0]⟩, ⟨29, 3, (obj b1), 1, [.string (sb (p.key)), nv, wv]⟩] := hM24.cast (by simp [ivals, svals, bvals, nvals, u8s, Nat.add_assoc, recs, nmC])
   have hS26 := hM25.sub (sD (sK (sK sR)))
   refine GoI.stepF 5 (v21) (w22) ((Builtin.append_ #[23, 23] 23 #[v16, nv]).run Try.prog w17 = .ok v21 w22) (some 11) (by kernel_rfl) (hr23) (.inr hS26) ?_
   refine GoH.each [6, 7] (by kernel_rfl) (by kernel_rfl) ⟨?_, ?_, trivial⟩
   ·
    have hS27 := hM25.sub (sD (sK (sK sR)))
    refine GoI.stepF 6 (.agg #[.string (sb (p.key)), v21, .slice none 0 0]) (w22) ((Instr.build 29 #[(0, .string (sb (p.key))), (1, v21)]).run Try.prog w22 = .ok (.agg #[.string (sb (p.key)), v21, .slice none 0 0]) w22) (some 12) (by kernel_rfl) ((by obtain ⟨a0_, m0_, c0_, e0_⟩ : ∃ a m c, v21 = Value.slice a m c := rd_form (hM25.rd 0 rfl); rw [e0_]; kernel_rfl)) (.inr hS27) ?_
    obtain ⟨b28, w29, hr30, hM31⟩ := m_alloc oT29 hM25
    have hM32 : Mem [] w w29 [⟨29, 3, (obj b28), 1, [.string (sb ([])), .slice none 0 0, .slice none 0 0]⟩, ⟨60, 2, v21, (List.length (p.nums)), (recs nmC (p.nums))⟩, ⟨29, 3, (obj b6), 1, [.string (sb ([])), .slice none 0 0, .slice none 0 0]⟩, ⟨29, 3, (obj b1), 1, [.string (sb (p.key)), nv, wv]⟩] := hM31
    have hS33 := hM32.sub (sD (sD (sK (sK sR))))
    refine GoH.stepF 7 (pq b28) (w29) ((Instr.alloc 29 true (.tuple #[])).run Try.prog w22 = .ok (pq b28) w29) (some 3) (by kernel_rfl) (hr30) (.inr hS33) ?_
    obtain ⟨w34, hr35, hM36⟩ := c_stores (ys := [.string (sb (p.key)), v21, .slice none 0 0]) aE29 hM32 0 rfl (cel_obj b28 0) rfl (by decide) (by intro u hu; simp at hu; rcases hu with rfl | rfl | rfl <;> first | rfl | exact (rd_one (hM32.rd 1 rfl)))
    have hM37 : Mem [] w w34 [⟨29, 3, (obj b28), 1, [.string (sb (p.key)), v21, .slice none 0 0]⟩, ⟨60, 2, v21, (List.length (p.nums)), (recs nmC (p.nums))⟩, ⟨29, 3, (obj b6), 1, [.string (sb ([])), .slice none 0 0, .slice none 0 0]⟩, ⟨29, 3, (obj b1), 1, [.string (sb (p.key)), nv, wv]⟩] := hM36
    refine GoH.stepF 8 (undef) (w34) ((Instr.storeAt 29 (pq b28) (.agg #[.string (sb (p.key)), v21, .slice none 0 0])).run Try.prog w29 = .ok () w34 ∧ undef = undef) none (by kernel_rfl) (⟨hr35, rfl⟩) (.inl rfl) ?_
    refine GoH.done [1, 2, 3] [(1, pq b1), (2, pq b6), (3, pq b28)] (by kernel_rfl) (by kernel_rfl) ?_
    have o88 : (Instr.loadAt 27 (.pointer (some (⟨b1, 2, none⟩)))).run Try.prog w34 = .ok (wv) w34 := c_load pE27 (hM37.rd 3 rfl) (cel_obj b1 2) rfl
    have o89 : (Builtin.len_ #[27] 3 #[wv]).run Try.prog w34 = .ok (.int .i64 (((List.length Z) : Nat) : Int)) w34 := f_slen sT27 (hz.kept0 hM37.kept) 3 _
    have hM90 := hM37.sub (sK (sK (sK (sD sR))))
    refine GoS.run [2, 3, 14, 15, 16] [.n, .n, .n, .n, .h (wv), .h (.int .i64 (((List.length Z) : Nat) : Int)), .n, .n, .n, .n] _ [.code (csub (cd Try.f41) uI0), .inLoop (csub (cd Try.f41) uI0), .inBlock 0, .code (csub (cd Try.f41) [1,1,1])] [(2, pq b6), (3, pq b28), (14, wv), (15, .int .i64 (((List.length Z) : Nat) : Int)), (16, .int .i64 0)] w34 (by kernel_rfl) (.cons o88 (.cons o89 .nil)) ?_
    have hM91 := hM90.nilrow 68 2
    have hM92 : Mem [] w w34 [⟨29, 3, (obj b28), 1, [.string (sb (p.key)), v21, .slice none 0 0]⟩, ⟨68, 2, (.slice none 0 0), 0, []⟩, ⟨60, 2, v21, (List.length (p.nums)), (recs nmC (p.nums))⟩, ⟨29, 3, (obj b6), 1, [.string (sb ([])), .slice none 0 0, .slice none 0 0]⟩] := hM91.perm ((List.Perm.cons _ (List.Perm.refl _)).trans (List.Perm.swap _ _ _))
    have hM93 : Mem [] w w34 [⟨29, 3, (obj b6), 1, [.string (sb ([])), .slice none 0 0, .slice none 0 0]⟩, ⟨29, 3, (obj b28), 1, [.string (sb (p.key)), v21, .slice none 0 0]⟩, ⟨68, 2, (.slice none 0 0), 0, []⟩, ⟨60, 2, v21, (List.length (p.nums)), (recs nmC (p.nums))⟩] := hM92.perm ((List.Perm.cons _ ((List.Perm.cons _ ((List.Perm.cons _ (List.Perm.refl _)).trans (List.Perm.swap _ _ _))).trans (List.Perm.swap _ _ _))).trans (List.Perm.swap _ _ _))
    have hM94 : Mem [] w w34 [⟨60, 2, v21, (List.length (p.nums)), (recs nmC (p.nums))⟩, ⟨29, 3, (obj b6), 1, [.string (sb ([])), .slice none 0 0, .slice none 0 0]⟩, ⟨29, 3, (obj b28), 1, [.string (sb (p.key)), v21, .slice none 0 0]⟩, ⟨68, 2, (.slice none 0 0), 0, []⟩] := hM93.perm ((List.Perm.cons _ ((List.Perm.cons _ ((List.Perm.cons _ (List.Perm.refl _)).trans (List.Perm.swap _ _ _))).trans (List.Perm.swap _ _ _))).trans (List.Perm.swap _ _ _))
    have hM95 : Mem [] w w34 [⟨68, 2, (.slice none 0 0), 0, []⟩, ⟨60, 2, v21, (List.length (p.nums)), (recs nmC (p.nums))⟩, ⟨29, 3, (obj b6), 1, [.string (sb ([])), .slice none 0 0, .slice none 0 0]⟩, ⟨29, 3, (obj b28), 1, [.string (sb (p.key)), v21, .slice none 0 0]⟩] := hM94.perm ((List.Perm.cons _ ((List.Perm.cons _ ((List.Perm.cons _ (List.Perm.refl _)).trans (List.Perm.swap _ _ _))).trans (List.Perm.swap _ _ _))).trans (List.Perm.swap _ _ _))
    exact copied_L p nv wv hs hn Z hZ hz ht v21 b6 b28 R hR (Z.length + 1) (.slice none 0 0) [] [] 0 w34 (Nat.zero_le _) rfl (fun z hz => by cases hz) ((hM95.sub (sK (sK (sK (sK sN))))).cast (by first | rfl | simp [recs])) (by omega)
   ·
    obtain ⟨b38, w39, hr40, hM41⟩ := m_alloc oT29 hM25
    have hM42 : Mem [] w w39 [⟨29, 3, (obj b38), 1, [.string (sb ([])), .slice none 0 0, .slice none 0 0]⟩, ⟨60, 2, v21, (List.length (p.nums)), (recs nmC (p.nums))⟩, ⟨29, 3, (obj b6), 1, [.string (sb ([])), .slice none 0 0, .slice none 0 0]⟩, ⟨29, 3, (obj b1), 1, [.string (sb (p.key)), nv, wv]⟩] := hM41
    have hS43 := hM42.sub (sD (sD (sK (sK sR))))
    refine GoI.stepF 7 (pq b38) (w39) ((Instr.alloc 29 true (.tuple #[])).run Try.prog w22 = .ok (pq b38) w39) (some 3) (by kernel_rfl) (hr40) (.inr hS43) ?_
    have hS44 := hM42.sub (sD (sD (sK (sK sR))))
    refine GoH.stepF 6 (.agg #[.string (sb (p.key)), v21, .slice none 0 0]) (w39) ((Instr.build 29 #[(0, .string (sb (p.key))), (1, v21)]).run Try.prog w39 = .ok (.agg #[.string (sb (p.key)), v21, .slice none 0 0]) w39) (some 12) (by kernel_rfl) ((by obtain ⟨a0_, m0_, c0_, e0_⟩ : ∃ a m c, v21 = Value.slice a m c := rd_form (hM42.rd 1 rfl); rw [e0_]; kernel_rfl)) (.inr hS44) ?_
    obtain ⟨w45, hr46, hM47⟩ := c_stores (ys := [.string (sb (p.key)), v21, .slice none 0 0]) aE29 hM42 0 rfl (cel_obj b38 0) rfl (by decide) (by intro u hu; simp at hu; rcases hu with rfl | rfl | rfl <;> first | rfl | exact (rd_one (hM42.rd 1 rfl)))
    have hM48 : Mem [] w w45 [⟨29, 3, (obj b38), 1, [.string (sb (p.key)), v21, .slice none 0 0]⟩, ⟨60, 2, v21, (List.length (p.nums)), (recs nmC (p.nums))⟩, ⟨29, 3, (obj b6), 1, [.string (sb ([])), .slice none 0 0, .slice none 0 0]⟩, ⟨29, 3, (obj b1), 1, [.string (sb (p.key)), nv, wv]⟩] := hM47
    refine GoH.stepF 8 (undef) (w45) ((Instr.storeAt 29 (pq b38) (.agg #[.string (sb (p.key)), v21, .slice none 0 0])).run Try.prog w39 = .ok () w45 ∧ undef = undef) none (by kernel_rfl) (⟨hr46, rfl⟩) (.inl rfl) ?_
    refine GoH.done [1, 2, 3] [(1, pq b1), (2, pq b6), (3, pq b38)] (by kernel_rfl) (by kernel_rfl) ?_
    have o96 : (Instr.loadAt 27 (.pointer (some (⟨b1, 2, none⟩)))).run Try.prog w45 = .ok (wv) w45 := c_load pE27 (hM48.rd 3 rfl) (cel_obj b1 2) rfl
    have o97 : (Builtin.len_ #[27] 3 #[wv]).run Try.prog w45 = .ok (.int .i64 (((List.length Z) : Nat) : Int)) w45 := f_slen sT27 (hz.kept0 hM48.kept) 3 _
    have hM98 := hM48.sub (sK (sK (sK (sD sR))))
    refine GoS.run [2, 3, 14, 15, 16] [.n, .n, .n, .n, .h (wv), .h (.int .i64 (((List.length Z) : Nat) : Int)), .n, .n, .n, .n] _ [.code (csub (cd Try.f41) uI0), .inLoop (csub (cd Try.f41) uI0), .inBlock 0, .code (csub (cd Try.f41) [1,1,1])] [(2, pq b6), (3, pq b38), (14, wv), (15, .int .i64 (((List.length Z) : Nat) : Int)), (16, .int .i64 0)] w45 (by kernel_rfl) (.cons o96 (.cons o97 .nil)) ?_
    have hM99 := hM98.nilrow 68 2
    have hM100 : Mem [] w w45 [⟨29, 3, (obj b38), 1, [.string (sb (p.key)), v21, .slice none 0 0]⟩, ⟨68, 2, (.slice none 0 0), 0, []⟩, ⟨60, 2, v21, (List.length (p.nums)), (recs nmC (p.nums))⟩, ⟨29, 3, (obj b6), 1, [.string (sb ([])), .slice none 0 0, .slice none 0 0]⟩] := hM99.perm ((List.Perm.cons _ (List.Perm.refl _)).trans (List.Perm.swap _ _ _))
    have hM101 : Mem [] w w45 [⟨29, 3, (obj b6), 1, [.string (sb ([])), .slice none 0 0, .slice none 0 0]⟩, ⟨29, 3, (obj b38), 1, [.string (sb (p.key)), v21, .slice none 0 0]⟩, ⟨68, 2, (.slice none 0 0), 0, []⟩, ⟨60, 2, v21, (List.length (p.nums)), (recs nmC (p.nums))⟩] := hM100.perm ((List.Perm.cons _ ((List.Perm.cons _ ((List.Perm.cons _ (List.Perm.refl _)).trans (List.Perm.swap _ _ _))).trans (List.Perm.swap _ _ _))).trans (List.Perm.swap _ _ _))
    have hM102 : Mem [] w w45 [⟨60, 2, v21, (List.length (p.nums)), (recs nmC (p.nums))⟩, ⟨29, 3, (obj b6), 1, [.string (sb ([])), .slice none 0 0, .slice none 0 0]⟩, ⟨29, 3, (obj b38), 1, [.string (sb (p.key)), v21, .slice none 0 0]⟩, ⟨68, 2, (.slice none 0 0), 0, []⟩] := hM101.perm ((List.Perm.cons _ ((List.Perm.cons _ ((List.Perm.cons _ (List.Perm.refl _)).trans (List.Perm.swap _ _ _))).trans (List.Perm.swap _ _ _))).trans (List.Perm.swap _ _ _))
    have hM103 : Mem [] w w45 [⟨68, 2, (.slice none 0 0), 0, []⟩, ⟨60, 2, v21, (List.length (p.nums)), (recs nmC (p.nums))⟩, ⟨29, 3, (obj b6), 1, [.string (sb ([])), .slice none 0 0, .slice none 0 0]⟩, ⟨29, 3, (obj b38), 1, [.string (sb (p.key)), v21, .slice none 0 0]⟩] := hM102.perm ((List.Perm.cons _ ((List.Perm.cons _ ((List.Perm.cons _ (List.Perm.refl _)).trans (List.Perm.swap _ _ _))).trans (List.Perm.swap _ _ _))).trans (List.Perm.swap _ _ _))
    exact copied_L p nv wv hs hn Z hZ hz ht v21 b6 b38 R hR (Z.length + 1) (.slice none 0 0) [] [] 0 w45 (Nat.zero_le _) rfl (fun z hz => by cases hz) ((hM103.sub (sK (sK (sK (sK sN))))).cast (by first | rfl | simp [recs])) (by omega)
  ·
   obtain ⟨b49, w50, hr51, hM52⟩ := m_alloc oT29 hM19
   have hM53 : Mem [] w w50 [⟨29, 3, (obj b49), 1, [.string (sb ([])), .slice none 0 0, .slice none 0 0]⟩, ⟨60, 2, v16, 0, []⟩, ⟨29, 3, (obj b6), 1, [.string (sb ([])), .slice none 0 0, .slice none 0 0]⟩, ⟨29, 3, (obj b1), 1, [.string (sb (p.key)), nv, wv]⟩] := hM52
   have hS54 := hM53.sub (sD (sD (sK (sK sR))))
   refine GoI.stepF 7 (pq b49) (w50) ((Instr.alloc 29 true (.tuple #[])).run Try.prog w17 = .ok (pq b49) w50) (some 3) (by kernel_rfl) (hr51) (.inr hS54) ?_
   obtain ⟨v55, w56, hr57, hM58⟩ := m_append sT23 hM53 1 rfl (hn.kept0 hM53.kept) (recs_ones nmC_one (p.nums)) (by first | omega | (dsimp only; omega) | (have z := small_at hs hZ (i := i) (by omega); (try dsimp only); omega)) (by first | omega | (dsimp only; omega) | (have z := small_at hs hZ (i := i) (by omega); (try dsimp only); omega)) 23
   have hM59 : Mem [] w w56 [⟨29, 3, (obj b49), 1, [.string (sb ([])), .slice none 0 0, .slice none 0 0]⟩, ⟨60, 2, v55, (List.length (p.nums)), (recs nmC (p.nums))⟩, ⟨29, 3, (obj b6), 1, [.string (sb ([])), .slice none 0 0, .slice none 0 0]⟩, ⟨29, 3, (obj b1), 1, [.string (sb (p.key)), nv, wv]⟩] := hM58.cast (by simp [ivals, svals, bvals, nvals, u8s, Nat.add_assoc, recs, nmC])
   have hS60 := hM59.sub (sD (sD (sK (sK sR))))
   refine GoH.stepF 5 (v55) (w56) ((Builtin.append_ #[23, 23] 23 #[v16, nv]).run Try.prog w50 = .ok v55 w56) (some 11) (by kernel_rfl) (hr57) (.inr hS60) ?_
   have hS61 := hM59.sub (sD (sD (sK (sK sR))))
   refine GoH.stepF 6 (.agg #[.string (sb (p.key)), v55, .slice none 0 0]) (w56) ((Instr.build 29 #[(0, .string (sb (p.key))), (1, v55)]).run Try.prog w56 = .ok (.agg #[.string (sb (p.key)), v55, .slice none 0 0]) w56) (some 12) (by kernel_rfl) ((by obtain ⟨a0_, m0_, c0_, e0_⟩ : ∃ a m c, v55 = Value.slice a m c := rd_form (hM59.rd 1 rfl); rw [e0_]; kernel_rfl)) (.inr hS61) ?_
   obtain ⟨w62, hr63, hM64⟩ := c_stores (ys := [.string (sb (p.key)), v55, .slice none 0 0]) aE29 hM59 0 rfl (cel_obj b49 0) rfl (by decide) (by intro u hu; simp at hu; rcases hu with rfl | rfl | rfl <;> first | rfl | exact (rd_one (hM59.rd 1 rfl)))
   have hM65 : Mem [] w w62 [⟨29, 3, (obj b49), 1, [.string (sb (p.key)), v55, .slice none 0 0]⟩, ⟨60, 2, v55, (List.length (p.nums)), (recs nmC (p.nums))⟩, ⟨29, 3, (obj b6), 1, [.string (sb ([])), .slice none 0 0, .slice none 0 0]⟩, ⟨29, 3, (obj b1), 1, [.string (sb (p.key)), nv, wv]⟩] := hM64
   refine GoH.stepF 8 (undef) (w62) ((Instr.storeAt 29 (pq b49) (.agg #[.string (sb (p.key)), v55, .slice none 0 0])).run Try.prog w56 = .ok () w62 ∧ undef = undef) none (by kernel_rfl) (⟨hr63, rfl⟩) (.inl rfl) ?_
   refine GoH.done [1, 2, 3] [(1, pq b1), (2, pq b6), (3, pq b49)] (by kernel_rfl) (by kernel_rfl) ?_
   have o104 : (Instr.loadAt 27 (.pointer (some (⟨b1, 2, none⟩)))).run Try.prog w62 = .ok (wv) w62 := c_load pE27 (hM65.rd 3 rfl) (cel_obj b1 2) rfl
   have o105 : (Builtin.len_ #[27] 3 #[wv]).run Try.prog w62 = .ok (.int .i64 (((List.length Z) : Nat) : Int)) w62 := f_slen sT27 (hz.kept0 hM65.kept) 3 _
   have hM106 := hM65.sub (sK (sK (sK (sD sR))))
   refine GoS.run [2, 3, 14, 15, 16] [.n, .n, .n, .n, .h (wv), .h (.int .i64 (((List.length Z) : Nat) : Int)), .n, .n, .n, .n] _ [.code (csub (cd Try.f41) uI0), .inLoop (csub (cd Try.f41) uI0), .inBlock 0, .code (csub (cd Try.f41) [1,1,1])] [(2, pq b6), (3, pq b49), (14, wv), (15, .int .i64 (((List.length Z) : Nat) : Int)), (16, .int .i64 0)] w62 (by kernel_rfl) (.cons o104 (.cons o105 .nil)) ?_
   have hM107 := hM106.nilrow 68 2
   have hM108 : Mem [] w w62 [⟨29, 3, (obj b49), 1, [.string (sb (p.key)), v55, .slice none 0 0]⟩, ⟨68, 2, (.slice none 0 0), 0, []⟩, ⟨60, 2, v55, (List.length (p.nums)), (recs nmC (p.nums))⟩, ⟨29, 3, (obj b6), 1, [.string (sb ([])), .slice none 0 0, .slice none 0 0]⟩] := hM107.perm ((List.Perm.cons _ (List.Perm.refl _)).trans (List.Perm.swap _ _ _))
   have hM109 : Mem [] w w62 [⟨29, 3, (obj b6), 1, [.string (sb ([])), .slice none 0 0, .slice none 0 0]⟩, ⟨29, 3, (obj b49), 1, [.string (sb (p.key)), v55, .slice none 0 0]⟩, ⟨68, 2, (.slice none 0 0), 0, []⟩, ⟨60, 2, v55, (List.length (p.nums)), (recs nmC (p.nums))⟩] := hM108.perm ((List.Perm.cons _ ((List.Perm.cons _ ((List.Perm.cons _ (List.Perm.refl _)).trans (List.Perm.swap _ _ _))).trans (List.Perm.swap _ _ _))).trans (List.Perm.swap _ _ _))
   have hM110 : Mem [] w w62 [⟨60, 2, v55, (List.length (p.nums)), (recs nmC (p.nums))⟩, ⟨29, 3, (obj b6), 1, [.string (sb ([])), .slice none 0 0, .slice none 0 0]⟩, ⟨29, 3, (obj b49), 1, [.string (sb (p.key)), v55, .slice none 0 0]⟩, ⟨68, 2, (.slice none 0 0), 0, []⟩] := hM109.perm ((List.Perm.cons _ ((List.Perm.cons _ ((List.Perm.cons _ (List.Perm.refl _)).trans (List.Perm.swap _ _ _))).trans (List.Perm.swap _ _ _))).trans (List.Perm.swap _ _ _))
   have hM111 : Mem [] w w62 [⟨68, 2, (.slice none 0 0), 0, []⟩, ⟨60, 2, v55, (List.length (p.nums)), (recs nmC (p.nums))⟩, ⟨29, 3, (obj b6), 1, [.string (sb ([])), .slice none 0 0, .slice none 0 0]⟩, ⟨29, 3, (obj b49), 1, [.string (sb (p.key)), v55, .slice none 0 0]⟩] := hM110.perm ((List.Perm.cons _ ((List.Perm.cons _ ((List.Perm.cons _ (List.Perm.refl _)).trans (List.Perm.swap _ _ _))).trans (List.Perm.swap _ _ _))).trans (List.Perm.swap _ _ _))
   exact copied_L p nv wv hs hn Z hZ hz ht v55 b6 b49 R hR (Z.length + 1) (.slice none 0 0) [] [] 0 w62 (Nat.zero_le _) rfl (fun z hz => by cases hz) ((hM111.sub (sK (sK (sK (sK sN))))).cast (by first | rfl | simp [recs])) (by omega)
 ·
  obtain ⟨b66, w67, hr68, hM69⟩ := m_alloc oT29 hM14
  have hM70 : Mem [] w w67 [⟨29, 3, (obj b66), 1, [.string (sb ([])), .slice none 0 0, .slice none 0 0]⟩, ⟨29, 3, (obj b6), 1, [.string (sb ([])), .slice none 0 0, .slice none 0 0]⟩, ⟨29, 3, (obj b1), 1, [.string (sb (p.key)), nv, wv]⟩] := hM69
  have hS71 := hM70.sub (sD (sK (sK sR)))
  refine GoI.stepF 7 (pq b66) (w67) ((Instr.alloc 29 true (.tuple #[])).run Try.prog w12 = .ok (pq b66) w67) (some 3) (by kernel_rfl) (hr68) (.inr hS71) ?_
  obtain ⟨v72, w73, hr74, hM75⟩ := m_lit sT23 hM70 (n := 0) (parts := #[]) (cs := []) (by decide) (by kernel_rfl) rfl
  have hS76 := hM75.sub (sD (sD (sK (sK sR))))
  refine GoH.stepF 2 (v72) (w73) ((Instr.buildSlice 23 0 #[]).run Try.prog w67 = .ok v72 w73) (some 8) (by kernel_rfl) (hr74) (.inr hS76) ?_
  obtain ⟨v77, w78, hr79, hM80⟩ := m_append sT23 hM75 0 rfl (hn.kept0 hM75.kept) (recs_ones nmC_one (p.nums)) (by first | omega | (dsimp only; omega) | (have z := small_at hs hZ (i := i) (by omega); (try dsimp only); omega)) (by first | omega | (dsimp only; omega) | (have z := small_at hs hZ (i := i) (by omega); (try dsimp only); omega)) 23
  have hM81 : Mem [] w w78 [⟨60, 2, v77, (List.length (p.nums)), (recs nmC (p.nums))⟩, ⟨29, 3, (obj b66), 1, [.string (sb ([])), .slice none 0 0, .slice none 0 0]⟩, ⟨29, 3, (obj b6), 1, [.string (sb ([])), .slice none 0 0, .slice none 0 0]⟩, ⟨29, 3, (obj b1), 1, [.string (sb (p.key)), nv, wv]⟩] := hM80.cast (by simp [ivals, svals, bvals, nvals, u8s, Nat.add_assoc, recs, nmC])
  have hS82 := hM81.sub (sD (sD (sK (sK sR))))
  refine GoH.stepF 5 (v77) (w78) ((Builtin.append_ #[23, 23] 23 #[v72, nv]).run Try.prog w73 = .ok v77 w78) (some 11) (by kernel_rfl) (hr79) (.inr hS82) ?_
  have hS83 := hM81.sub (sD (sD (sK (sK sR))))
  refine GoH.stepF 6 (.agg #[.string (sb (p.key)), v77, .slice none 0 0]) (w78) ((Instr.build 29 #[(0, .string (sb (p.key))), (1, v77)]).run Try.prog w78 = .ok (.agg #[.string (sb (p.key)), v77, .slice none 0 0]) w78) (some 12) (by kernel_rfl) ((by obtain ⟨a0_, m0_, c0_, e0_⟩ : ∃ a m c, v77 = Value.slice a m c := rd_form (hM81.rd 0 rfl); rw [e0_]; kernel_rfl)) (.inr hS83) ?_
  obtain ⟨w84, hr85, hM86⟩ := c_stores (ys := [.string (sb (p.key)), v77, .slice none 0 0]) aE29 hM81 1 rfl (cel_obj b66 0) rfl (by decide) (by intro u hu; simp at hu; rcases hu with rfl | rfl | rfl <;> first | rfl | exact (rd_one (hM81.rd 0 rfl)))
  have hM87 : Mem [] w w84 [⟨60, 2, v77, (List.length (p.nums)), (recs nmC (p.nums))⟩, ⟨29, 3, (obj b66), 1, [.string (sb (p.key)), v77, .slice none 0 0]⟩, ⟨29, 3, (obj b6), 1, [.string (sb ([])), .slice none 0 0, .slice none 0 0]⟩, ⟨29, 3, (obj b1), 1, [.string (sb (p.key)), nv, wv]⟩] := hM86
  refine GoH.stepF 8 (undef) (w84) ((Instr.storeAt 29 (pq b66) (.agg #[.string (sb (p.key)), v77, .slice none 0 0])).run Try.prog w78 = .ok () w84 ∧ undef = undef) none (by kernel_rfl) (⟨hr85, rfl⟩) (.inl rfl) ?_
  refine GoH.done [1, 2, 3] [(1, pq b1), (2, pq b6), (3, pq b66)] (by kernel_rfl) (by kernel_rfl) ?_
  have o112 : (Instr.loadAt 27 (.pointer (some (⟨b1, 2, none⟩)))).run Try.prog w84 = .ok (wv) w84 := c_load pE27 (hM87.rd 3 rfl) (cel_obj b1 2) rfl
  have o113 : (Builtin.len_ #[27] 3 #[wv]).run Try.prog w84 = .ok (.int .i64 (((List.length Z) : Nat) : Int)) w84 := f_slen sT27 (hz.kept0 hM87.kept) 3 _
  have hM114 := hM87.sub (sK (sK (sK (sD sR))))
  refine GoS.run [2, 3, 14, 15, 16] [.n, .n, .n, .n, .h (wv), .h (.int .i64 (((List.length Z) : Nat) : Int)), .n, .n, .n, .n] _ [.code (csub (cd Try.f41) uI0), .inLoop (csub (cd Try.f41) uI0), .inBlock 0, .code (csub (cd Try.f41) [1,1,1])] [(2, pq b6), (3, pq b66), (14, wv), (15, .int .i64 (((List.length Z) : Nat) : Int)), (16, .int .i64 0)] w84 (by kernel_rfl) (.cons o112 (.cons o113 .nil)) ?_
  have hM115 := hM114.nilrow 68 2
  have hM116 : Mem [] w w84 [⟨29, 3, (obj b66), 1, [.string (sb (p.key)), v77, .slice none 0 0]⟩, ⟨68, 2, (.slice none 0 0), 0, []⟩, ⟨60, 2, v77, (List.length (p.nums)), (recs nmC (p.nums))⟩, ⟨29, 3, (obj b6), 1, [.string (sb ([])), .slice none 0 0, .slice none 0 0]⟩] := hM115.perm ((List.Perm.cons _ ((List.Perm.cons _ (List.Perm.refl _)).trans (List.Perm.swap _ _ _))).trans (List.Perm.swap _ _ _))
  have hM117 : Mem [] w w84 [⟨29, 3, (obj b6), 1, [.string (sb ([])), .slice none 0 0, .slice none 0 0]⟩, ⟨29, 3, (obj b66), 1, [.string (sb (p.key)), v77, .slice none 0 0]⟩, ⟨68, 2, (.slice none 0 0), 0, []⟩, ⟨60, 2, v77, (List.length (p.nums)), (recs nmC (p.nums))⟩] := hM116.perm ((List.Perm.cons _ ((List.Perm.cons _ ((List.Perm.cons _ (List.Perm.refl _)).trans (List.Perm.swap _ _ _))).trans (List.Perm.swap _ _ _))).trans (List.Perm.swap _ _ _))
  have hM118 : Mem [] w w84 [⟨60, 2, v77, (List.length (p.nums)), (recs nmC (p.nums))⟩, ⟨29, 3, (obj b6), 1, [.string (sb ([])), .slice none 0 0, .slice none 0 0]⟩, ⟨29, 3, (obj b66), 1, [.string (sb (p.key)), v77, .slice none 0 0]⟩, ⟨68, 2, (.slice none 0 0), 0, []⟩] := hM117.perm ((List.Perm.cons _ ((List.Perm.cons _ ((List.Perm.cons _ (List.Perm.refl _)).trans (List.Perm.swap _ _ _))).trans (List.Perm.swap _ _ _))).trans (List.Perm.swap _ _ _))
  have hM119 : Mem [] w w84 [⟨68, 2, (.slice none 0 0), 0, []⟩, ⟨60, 2, v77, (List.length (p.nums)), (recs nmC (p.nums))⟩, ⟨29, 3, (obj b6), 1, [.string (sb ([])), .slice none 0 0, .slice none 0 0]⟩, ⟨29, 3, (obj b66), 1, [.string (sb (p.key)), v77, .slice none 0 0]⟩] := hM118.perm ((List.Perm.cons _ ((List.Perm.cons _ ((List.Perm.cons _ (List.Perm.refl _)).trans (List.Perm.swap _ _ _))).trans (List.Perm.swap _ _ _))).trans (List.Perm.swap _ _ _))
  exact copied_L p nv wv hs hn Z hZ hz ht v77 b6 b66 R hR (Z.length + 1) (.slice none 0 0) [] [] 0 w84 (Nat.zero_le _) rfl (fun z hz => by cases hz) ((hM119.sub (sK (sK (sK (sK sN))))).cast (by first | rfl | simp [recs])) (by omega)


end Go.Proofs.Ytcdcehjilneifaa
