/-
  The walk of Put.
-/
import Derived.Test.YtcdcehjilneifaaPcI
namespace Go.Proofs.Ytcdcehjilneifaa
open Go Go.Gw Go.UtfP Go.TokP Go.PcP Go.RowKit
set_option linter.unusedVariables false
set_option linter.unusedSimpArgs false
set_option maxRecDepth 20000



set_option maxHeartbeats 1000000 in
theorem put_c {S : List Nat} {w0 w : World} (b : Nat) (v : Value) (Z : List PZ) (T : List Row) (hT : OwZ 60 68 79 T Z) (hlz : Z.length ≤ 2000000) (p : Pc) (nv wv : Value) (hp : OwP 60 68 79 T p nv wv) (hs : SmallP p) (hM : Mem S w0 w (⟨82, 1, (obj b), 1, [v]⟩ :: ⟨29, 3, v, (List.length Z), (recs pzC Z)⟩ :: T)) :
  Calls Try.prog 19 #[pq b, .agg #[.string (sb (p.key)), nv, wv]] w (fun e w' => ∃ (v' : Value) (Z' : List PZ) (T' : List Row), e = .returned (.bool (checkP p)) ∧ Z'.map PZ.pc = putK p (Z.map PZ.pc) ∧ OwZ 60 68 79 T' Z' ∧ (∀ r ∈ T, r ∈ T') ∧ Mem S w0 w' (⟨82, 1, (obj b), 1, [v']⟩ :: ⟨29, 3, v', (List.length (Z')), (recs pzC (Z'))⟩ :: T')) := by
 have hone : OneZ Z := hT.one hM (fun r_ h_ => mS (mS (h_)))
 obtain ⟨R, hR⟩ : ∃ R : Ending → World → Prop, R = (fun e w' => ∃ (v' : Value) (Z' : List PZ) (T' : List Row), e = .returned (.bool (checkP p)) ∧ Z'.map PZ.pc = putK p (Z.map PZ.pc) ∧ OwZ 60 68 79 T' Z' ∧ (∀ r ∈ T, r ∈ T') ∧ Mem S w0 w' (⟨82, 1, (obj b), 1, [v']⟩ :: ⟨29, 3, v', (List.length (Z')), (recs pzC (Z'))⟩ :: T')) := ⟨_, rfl⟩
 rw [← hR]
 refine GoS.enter (n := 27) Try.func19 (by kernel_rfl) rfl [(0, pq b), (1, .agg #[.string (sb (p.key)), nv, wv])] (by kernel_rfl) (by kernel_rfl) ?_
 obtain ⟨b1, w2, hr3, hM4⟩ := m_box (T := 29) (k := 3) (u := .agg #[.string (sb (p.key)), nv, wv]) rfl rfl hM
 have hM5 : Mem S w0 w2 (⟨29, 3, (obj b1), 1, [.string (sb (p.key)), nv, wv]⟩ :: ⟨82, 1, (obj b), 1, [v]⟩ :: ⟨29, 3, v, (List.length Z), (recs pzC Z)⟩ :: T) := hM4
 have o6 : (Instr.box 29 (.agg #[.string (sb (p.key)), nv, wv])).run Try.prog w = .ok (pq b1) w2 := hr3
 have o7 : (Instr.loadAt 29 (pq b1)).run Try.prog w2 = .ok (.agg #[.string (sb (p.key)), nv, wv]) w2 := c_loads (ys := [.string (sb (p.key)), nv, wv]) aE29 (hM5.rd 0 rfl) (cel_obj b1 0) rfl (by intro j u hj; match j, hj with | 0, hj => exact hj | 1, hj => exact hj | 2, hj => exact hj | n + 3, hj => cases hj)
 refine GoS.run [0, 3, 7, 8] [.n, .n, .u (pq b1) (w2), .n, .n, .n, .n, .n, .n, .n, .n, .h (.agg #[.string (sb (p.key)), nv, wv])] _ [.inRegion (cops (csub (cd Try.f19) [1,0,0])) [4,5,6], .code (csub (cd Try.f19) [1,0,1]), .code (csub (cd Try.f19) [1,1])] [(0, pq b), (3, pq b1), (7, .bool false), (8, .agg #[.string (sb (p.key)), nv, wv])] w2 (by kernel_rfl) (.cons o6 (.cons o7 .nil)) ?_
 refine GoS.call [0, 3, 7] 13 #[.agg #[.string (sb (p.key)), nv, wv]] (some 9) [.inRegion (cops (csub (cd Try.f19) [1,0,0])) [5,6], .code (csub (cd Try.f19) [1,0,1]), .code (csub (cd Try.f19) [1,1])] [(0, pq b), (3, pq b1), (7, .bool false)] (by kernel_rfl) (check_c p nv wv (hp.rd hM5 (fun r_ h_ => mS (mS (mS (h_))))) (Nat.le_trans (hs).nums (by decide)) (Nat.le_trans (hs).words (by decide))) ?_
 rintro _ w8 ⟨rfl, m9⟩
 refine ⟨_, rfl, ?_⟩
 have hM10 : Mem S w0 w8 (⟨29, 3, (obj b1), 1, [.string (sb (p.key)), nv, wv]⟩ :: ⟨82, 1, (obj b), 1, [v]⟩ :: ⟨29, 3, v, (List.length Z), (recs pzC Z)⟩ :: T) := Mem.join (R := []) hM5 m9
 refine GoS.run [0, 3, 11] [.n, .n, .n] _ [.code (csub (cd Try.f19) [1,0,1]), .code (csub (cd Try.f19) [1,1])] [(0, pq b), (3, pq b1), (11, .bool (!(checkP p)))] w8 (by kernel_rfl) .nil ?_
 refine GoS.cond (!(checkP p)) [.code (csub (cd Try.f19) [1,0,1,0]), .code (csub (cd Try.f19) [1,1])] [.code (csub (cd Try.f19) [1,0,1,1]), .code (csub (cd Try.f19) [1,1])] (by kernel_rfl) (fun h11 => ?_) (fun h11 => ?_)
 ·
  have hM12 := hM10.sub (sD (sK (sK sR)))
  refine GoS.run [4] [.n, .n, .n, .n] _ [.code (csub (cd Try.f19) [1,0,1,0,1]), .code (csub (cd Try.f19) [1,1])] [(4, .bool false)] w8 (by kernel_rfl) .nil ?_
  refine GoS.ret (fn := Try.f19) (v := (.bool false)) Try.func19 (by kernel_rfl) ?_
  rw [hR]
  have hc : checkP p = false := by simpa using h11
  exact ⟨v, Z, T, ret_bool hc.symm, by unfold putK; rw [hc]; rfl, hT, fun r h => h, hM12.sub (sK (sK sR))⟩
 ·
  refine GoS.run [0, 3] [.n] _ [.code (csub (cd Try.f19) [1,1])] [(0, pq b), (3, pq b1)] w8 (by kernel_rfl) .nil ?_
  have o13 : (Instr.loadAt 9 (pq b1)).run Try.prog w8 = .ok (.string (sb (p.key))) w8 := c_load pE9 (hM10.rd 0 rfl) (cel_obj b1 0) rfl
  refine GoS.run [0, 3, 12, 14] [.n, .n, .n, .n, .h (.string (sb (p.key)))] _ [.inRegion (cops (csub (cd Try.f19) [1,1,0])) [3], .code (csub (cd Try.f19) [1,1,1])] [(0, pq b), (3, pq b1), (12, pq b), (14, .string (sb (p.key)))] w8 (by kernel_rfl) (.cons o13 .nil) ?_
  have hM14 : Mem S w0 w8 (⟨29, 3, v, (List.length Z), (recs pzC Z)⟩ :: ⟨29, 3, (obj b1), 1, [.string (sb (p.key)), nv, wv]⟩ :: ⟨82, 1, (obj b), 1, [v]⟩ :: T) := hM10.perm ((List.Perm.cons _ ((List.Perm.cons _ (List.Perm.refl _)).trans (List.Perm.swap _ _ _))).trans (List.Perm.swap _ _ _))
  have hM15 : Mem S w0 w8 (⟨82, 1, (obj b), 1, [v]⟩ :: ⟨29, 3, v, (List.length Z), (recs pzC Z)⟩ :: ⟨29, 3, (obj b1), 1, [.string (sb (p.key)), nv, wv]⟩ :: T) := hM14.perm ((List.Perm.cons _ ((List.Perm.cons _ (List.Perm.refl _)).trans (List.Perm.swap _ _ _))).trans (List.Perm.swap _ _ _))
  refine GoS.call [0, 3] 15 #[pq b, .string (sb (p.key))] (some 15) [.inRegion (cops (csub (cd Try.f19) [1,1,0])) [], .code (csub (cd Try.f19) [1,1,1])] [(0, pq b), (3, pq b1)] (by kernel_rfl) (drop_c b (p.key) v Z (⟨29, 3, (obj b1), 1, [.string (sb (p.key)), nv, wv]⟩ :: T) hone hM15) ?_
  rintro _ w16 ⟨v17, rfl, hM18⟩
  refine ⟨_, rfl, ?_⟩
  refine GoS.run [0, 3] [.n, .n] _ [.code (csub (cd Try.f19) [1,1,1,0]), .code (csub (cd Try.f19) [1,1,1,1])] [(0, pq b), (3, pq b1)] w16 (by kernel_rfl) .nil ?_
  obtain ⟨w19, hw20⟩ : ∃ w_, (w16).drewN 1 = w_ := ⟨_, rfl⟩
  refine GoS.held (fun W_ => Mem S w0 W_ [⟨29, 3, (obj b1), 1, [.string (sb (p.key)), nv, wv]⟩]) [] 4 (by kernel_rfl) (by kernel_rfl) 12 (by kernel_rfl) ?_
  rw [hw20]
  have hM21 : Mem S w0 w19 (⟨82, 1, (obj b), 1, [v17]⟩ :: ⟨29, 3, v17, (List.length (dropZ (p.key) Z)), (recs pzC (dropZ (p.key) Z))⟩ :: ⟨29, 3, (obj b1), 1, [.string (sb (p.key)), nv, wv]⟩ :: T) := hw20 ▸ hM18.ext (Kept.drewN _ _ 1)
  have hS22 := hM21.sub (sD (sD (sK sN)))
  refine GoH.takeV 0 (pq b) (pq b) (some 16) (fun W_ => by kernel_rfl) rfl hS22 ?_
  refine GoH.takeV 1 (pq b) (pq b) (some 17) (fun W_ => by kernel_rfl) rfl hS22 ?_
  refine GoH.takeV 2 (pq b) (pq b) (some 18) (fun W_ => by kernel_rfl) rfl hS22 ?_
  refine GoH.takeV 3 (pq b) (pq b) (some 19) (fun W_ => by kernel_rfl) rfl hS22 ?_
  refine GoH.takeF 5 (.agg #[.string (sb (p.key)), nv, wv]) (fun W_ => (Instr.loadAt 29 (pq b1)).run Try.prog W_ = .ok (.agg #[.string (sb (p.key)), nv, wv]) W_) (some 21) (fun W_ => by kernel_rfl) (fun W_ hW_ => c_loads (ys := [.string (sb (p.key)), nv, wv]) aE29 (hW_.rd 0 rfl) (cel_obj b1 0) rfl (by intro j u hj; match j, hj with | 0, hj => exact hj | 1, hj => exact hj | 2, hj => exact hj | n + 3, hj => cases hj)) hS22 ?_
  refine GoH.each [4, 6] (by kernel_rfl) (by kernel_rfl) ⟨?_, ?_, trivial⟩
  ·
   have hS23 := hM21.sub (sD (sD (sK sN)))
   refine GoI.stepF 4 (v17) (w19) ((Instr.loadAt 43 (pq b)).run Try.prog w19 = .ok (v17) w19) (some 20) (by kernel_rfl) (c_load pE43 (hM21.rd 0 rfl) (cel_obj b 0) rfl) (.inr hS23) ?_
   refine GoH.callF 6 41 #[.agg #[.string (sb (p.key)), nv, wv]] (some 22) (by kernel_rfl) (copied_c p nv wv hs (hp.rd hM21 (fun r_ h_ => mS (mS (mS (h_)))))) ?_
   rintro _ w24 ⟨v25, v26, T27, rfl, ho28, m29⟩
   have hM30 : Mem S w0 w24 (⟨82, 1, (obj b), 1, [v17]⟩ :: ⟨29, 3, v17, (List.length (dropZ (p.key) Z)), (recs pzC (dropZ (p.key) Z))⟩ :: ⟨29, 3, (obj b1), 1, [.string (sb (p.key)), nv, wv]⟩ :: (T ++ T27)) := joinT (R := [⟨82, 1, (obj b), 1, [v17]⟩, ⟨29, 3, v17, (List.length (dropZ (p.key) Z)), (recs pzC (dropZ (p.key) Z))⟩, ⟨29, 3, (obj b1), 1, [.string (sb (p.key)), nv, wv]⟩]) (A := T) hM21 m29
   have hS31 := hM30.sub (sD (sD (sK sN)))
   refine ⟨.agg #[.string (sb (p.key)), v25, v26], rfl, .inr hS31, ?_⟩
   obtain ⟨v32, w33, hr34, hM35⟩ := m_lit sT43 hM30 (n := 1) (parts := #[(0, .agg #[.string (sb (p.key)), v25, v26])]) (cs := [.string (sb (p.key)), v25, v26]) (by decide) (by kernel_rfl) rfl
   have hS36 := hM35.sub (sD (sD (sD (sK sN))))
   refine GoH.stepF 7 (v32) (w33) ((Instr.buildSlice 43 1 #[(0, .agg #[.string (sb (p.key)), v25, v26])]).run Try.prog w24 = .ok v32 w33) (some 23) (by kernel_rfl) (hr34) (.inr hS36) ?_
   obtain ⟨v37, w38, hr39, hM40⟩ := m_append sT43 hM35 2 rfl (hM35.rd 0 rfl) (by intro u hu; simp only [List.mem_cons, List.not_mem_nil, or_false] at hu; rcases hu with rfl | rfl | rfl; exact rfl; exact (rdp_one (ho28.rd hM35 (fun r_ h_ => mS (mS (mS (mS (List.mem_append_right _ (h_)))))))).1.1; exact (rdp_one (ho28.rd hM35 (fun r_ h_ => mS (mS (mS (mS (List.mem_append_right _ (h_)))))))).2.1) (by first | omega | (dsimp only; omega) | (have hz1 : (dropZ p.key Z).length ≤ Z.length := (List.eraseIdx_sublist Z _).length_le; (try dsimp only); omega)) (by first | omega | (dsimp only; omega) | (have hz1 : (dropZ p.key Z).length ≤ Z.length := (List.eraseIdx_sublist Z _).length_le; (try dsimp only); omega)) 43
   have hM41 : Mem S w0 w38 (⟨29, 3, v32, 1, [.string (sb (p.key)), v25, v26]⟩ :: ⟨82, 1, (obj b), 1, [v17]⟩ :: ⟨29, 3, v37, (List.length ((dropZ (p.key) Z) ++ ([(PZ.mk p v25 v26)] : List PZ))), (recs pzC ((dropZ (p.key) Z) ++ ([(PZ.mk p v25 v26)] : List PZ)))⟩ :: ⟨29, 3, (obj b1), 1, [.string (sb (p.key)), nv, wv]⟩ :: (T ++ T27)) := hM40.cast (by simp [ivals, svals, bvals, nvals, u8s, Nat.add_assoc, recs, pzC])
   have hS42 := hM41.sub (sD (sD (sD (sK sN))))
   refine GoH.stepF 8 (v37) (w38) ((Builtin.append_ #[43, 43] 43 #[v17, v32]).run Try.prog w33 = .ok v37 w38) (some 24) (by kernel_rfl) (hr39) (.inr hS42) ?_
   refine GoH.takeV 9 (pq b) (pq b) (some 25) (fun W_ => by kernel_rfl) rfl hS42 ?_
   refine GoH.takeV 10 (pq b) (pq b) (some 26) (fun W_ => by kernel_rfl) rfl hS42 ?_
   obtain ⟨w43, hr44, hM45⟩ := c_store (u := v37) (by kernel_rfl) hM41 1 rfl (cel_obj b 0) (by decide) (rd_one (hM41.rd 2 rfl)) (rd_cells (hM41.rd 2 rfl))
   have hM46 : Mem S w0 w43 (⟨29, 3, v32, 1, [.string (sb (p.key)), v25, v26]⟩ :: ⟨82, 1, (obj b), 1, [v37]⟩ :: ⟨29, 3, v37, (List.length ((dropZ (p.key) Z) ++ ([(PZ.mk p v25 v26)] : List PZ))), (recs pzC ((dropZ (p.key) Z) ++ ([(PZ.mk p v25 v26)] : List PZ)))⟩ :: ⟨29, 3, (obj b1), 1, [.string (sb (p.key)), nv, wv]⟩ :: (T ++ T27)) := hM45
   have hS47 := hM46.sub (sD (sD (sD (sK sN))))
   refine GoH.stepF 11 (undef) (w43) ((Instr.storeAt 43 (pq b) (v37)).run Try.prog w38 = .ok () w43 ∧ undef = undef) none (by kernel_rfl) (⟨hr44, rfl⟩) (.inr hS47) ?_
   refine GoH.done [] [] (by kernel_rfl) (by kernel_rfl) ?_
   have hM48 := hM46.sub (sD (sK (sK (sD sR))))
   refine GoS.run [4] [.n, .n, .n, .n] _ [.code (csub (cd Try.f19) [1,1,1,1,1])] [(4, .bool true)] w43 (by kernel_rfl) .nil ?_
   refine GoS.ret (fn := Try.f19) (v := (.bool true)) Try.func19 (by kernel_rfl) ?_
   rw [hR]
   have hc : checkP p = true := by simpa using h11
   exact ⟨_, ((dropZ (p.key) Z) ++ ([(PZ.mk p v25 v26)] : List PZ)), T ++ T27, ret_bool hc.symm, by rw [List.map_append, dropZ_pc]; unfold putK; rw [if_pos hc]; rfl, OwZ.snoc (fun z hz => (hT z (dropZ_sub z hz)).mono (fun r h => List.mem_append_left _ h)) (ho28.mono (fun r h => List.mem_append_right _ h)), fun r h => List.mem_append_left _ h, hM48.sub (sK (sK sR))⟩
  ·
   refine GoI.callF 6 41 #[.agg #[.string (sb (p.key)), nv, wv]] (some 22) (by kernel_rfl) (copied_c p nv wv hs (hp.rd hM21 (fun r_ h_ => mS (mS (mS (h_)))))) ?_
   rintro _ w49 ⟨v50, v51, T52, rfl, ho53, m54⟩
   have hM55 : Mem S w0 w49 (⟨82, 1, (obj b), 1, [v17]⟩ :: ⟨29, 3, v17, (List.length (dropZ (p.key) Z)), (recs pzC (dropZ (p.key) Z))⟩ :: ⟨29, 3, (obj b1), 1, [.string (sb (p.key)), nv, wv]⟩ :: (T ++ T52)) := joinT (R := [⟨82, 1, (obj b), 1, [v17]⟩, ⟨29, 3, v17, (List.length (dropZ (p.key) Z)), (recs pzC (dropZ (p.key) Z))⟩, ⟨29, 3, (obj b1), 1, [.string (sb (p.key)), nv, wv]⟩]) (A := T) hM21 m54
   have hS56 := hM55.sub (sD (sD (sK sN)))
   refine ⟨.agg #[.string (sb (p.key)), v50, v51], rfl, .inr hS56, ?_⟩
   refine GoH.each [4, 7] (by kernel_rfl) (by kernel_rfl) ⟨?_, ?_, trivial⟩
   ·
    have hS57 := hM55.sub (sD (sD (sK sN)))
    refine GoI.stepF 4 (v17) (w49) ((Instr.loadAt 43 (pq b)).run Try.prog w49 = .ok (v17) w49) (some 20) (by kernel_rfl) (c_load pE43 (hM55.rd 0 rfl) (cel_obj b 0) rfl) (.inr hS57) ?_
    obtain ⟨v58, w59, hr60, hM61⟩ := m_lit sT43 hM55 (n := 1) (parts := #[(0, .agg #[.string (sb (p.key)), v50, v51])]) (cs := [.string (sb (p.key)), v50, v51]) (by decide) (by kernel_rfl) rfl
    have hS62 := hM61.sub (sD (sD (sD (sK sN))))
    refine GoH.stepF 7 (v58) (w59) ((Instr.buildSlice 43 1 #[(0, .agg #[.string (sb (p.key)), v50, v51])]).run Try.prog w49 = .ok v58 w59) (some 23) (by kernel_rfl) (hr60) (.inr hS62) ?_
    obtain ⟨v63, w64, hr65, hM66⟩ := m_append sT43 hM61 2 rfl (hM61.rd 0 rfl) (by intro u hu; simp only [List.mem_cons, List.not_mem_nil, or_false] at hu; rcases hu with rfl | rfl | rfl; exact rfl; exact (rdp_one (ho53.rd hM61 (fun r_ h_ => mS (mS (mS (mS (List.mem_append_right _ (h_)))))))).1.1; exact (rdp_one (ho53.rd hM61 (fun r_ h_ => mS (mS (mS (mS (List.mem_append_right _ (h_)))))))).2.1) (by first | omega | (dsimp only; omega) | (have hz1 : (dropZ p.key Z).length ≤ Z.length := (List.eraseIdx_sublist Z _).length_le; (try dsimp only); omega)) (by first | omega | (dsimp only; omega) | (have hz1 : (dropZ p.key Z).length ≤ Z.length := (List.eraseIdx_sublist Z _).length_le; (try dsimp only); omega)) 43
    have hM67 : Mem S w0 w64 (⟨29, 3, v58, 1, [.string (sb (p.key)), v50, v51]⟩ :: ⟨82, 1, (obj b), 1, [v17]⟩ :: ⟨29, 3, v63, (List.length ((dropZ (p.key) Z) ++ ([(PZ.mk p v50 v51)] : List PZ))), (recs pzC ((dropZ (p.key) Z) ++ ([(PZ.mk p v50 v51)] : List PZ)))⟩ :: ⟨29, 3, (obj b1), 1, [.string (sb (p.key)), nv, wv]⟩ :: (T ++ T52)) := hM66.cast (by simp [ivals, svals, bvals, nvals, u8s, Nat.add_assoc, recs, pzC])
    have hS68 := hM67.sub (sD (sD (sD (sK sN))))
    refine GoH.stepF 8 (v63) (w64) ((Builtin.append_ #[43, 43] 43 #[v17, v58]).run Try.prog w59 = .ok v63 w64) (some 24) (by kernel_rfl) (hr65) (.inr hS68) ?_
    refine GoH.takeV 9 (pq b) (pq b) (some 25) (fun W_ => by kernel_rfl) rfl hS68 ?_
    refine GoH.takeV 10 (pq b) (pq b) (some 26) (fun W_ => by kernel_rfl) rfl hS68 ?_
    obtain ⟨w69, hr70, hM71⟩ := c_store (u := v63) (by kernel_rfl) hM67 1 rfl (cel_obj b 0) (by decide) (rd_one (hM67.rd 2 rfl)) (rd_cells (hM67.rd 2 rfl))
    have hM72 : Mem S w0 w69 (⟨29, 3, v58, 1, [.string (sb (p.key)), v50, v51]⟩ :: ⟨82, 1, (obj b), 1, [v63]⟩ :: ⟨29, 3, v63, (List.length ((dropZ (p.key) Z) ++ ([(PZ.mk p v50 v51)] : List PZ))), (recs pzC ((dropZ (p.key) Z) ++ ([(PZ.mk p v50 v51)] : List PZ)))⟩ :: ⟨29, 3, (obj b1), 1, [.string (sb (p.key)), nv, wv]⟩ :: (T ++ T52)) := hM71
    have hS73 := hM72.sub (sD (sD (sD (sK sN))))
    refine GoH.stepF 11 (undef) (w69) ((Instr.storeAt 43 (pq b) (v63)).run Try.prog w64 = .ok () w69 ∧ undef = undef) none (by kernel_rfl) (⟨hr70, rfl⟩) (.inr hS73) ?_
    refine GoH.done [] [] (by kernel_rfl) (by kernel_rfl) ?_
    have hM74 := hM72.sub (sD (sK (sK (sD sR))))
    refine GoS.run [4] [.n, .n, .n, .n] _ [.code (csub (cd Try.f19) [1,1,1,1,1])] [(4, .bool true)] w69 (by kernel_rfl) .nil ?_
    refine GoS.ret (fn := Try.f19) (v := (.bool true)) Try.func19 (by kernel_rfl) ?_
    rw [hR]
    have hc : checkP p = true := by simpa using h11
    exact ⟨_, ((dropZ (p.key) Z) ++ ([(PZ.mk p v50 v51)] : List PZ)), T ++ T52, ret_bool hc.symm, by rw [List.map_append, dropZ_pc]; unfold putK; rw [if_pos hc]; rfl, OwZ.snoc (fun z hz => (hT z (dropZ_sub z hz)).mono (fun r h => List.mem_append_left _ h)) (ho53.mono (fun r h => List.mem_append_right _ h)), fun r h => List.mem_append_left _ h, hM74.sub (sK (sK sR))⟩
   ·
    obtain ⟨v75, w76, hr77, hM78⟩ := m_lit sT43 hM55 (n := 1) (parts := #[(0, .agg #[.string (sb (p.key)), v50, v51])]) (cs := [.string (sb (p.key)), v50, v51]) (by decide) (by kernel_rfl) rfl
    have hS79 := hM78.sub (sD (sD (sD (sK sN))))
    refine GoI.stepF 7 (v75) (w76) ((Instr.buildSlice 43 1 #[(0, .agg #[.string (sb (p.key)), v50, v51])]).run Try.prog w49 = .ok v75 w76) (some 23) (by kernel_rfl) (hr77) (.inr hS79) ?_
    have hS80 := hM78.sub (sD (sD (sD (sK sN))))
    refine GoH.stepF 4 (v17) (w76) ((Instr.loadAt 43 (pq b)).run Try.prog w76 = .ok (v17) w76) (some 20) (by kernel_rfl) (c_load pE43 (hM78.rd 1 rfl) (cel_obj b 0) rfl) (.inr hS80) ?_
    obtain ⟨v81, w82, hr83, hM84⟩ := m_append sT43 hM78 2 rfl (hM78.rd 0 rfl) (by intro u hu; simp only [List.mem_cons, List.not_mem_nil, or_false] at hu; rcases hu with rfl | rfl | rfl; exact rfl; exact (rdp_one (ho53.rd hM78 (fun r_ h_ => mS (mS (mS (mS (List.mem_append_right _ (h_)))))))).1.1; exact (rdp_one (ho53.rd hM78 (fun r_ h_ => mS (mS (mS (mS (List.mem_append_right _ (h_)))))))).2.1) (by first | omega | (dsimp only; omega) | (have hz1 : (dropZ p.key Z).length ≤ Z.length := (List.eraseIdx_sublist Z _).length_le; (try dsimp only); omega)) (by first | omega | (dsimp only; omega) | (have hz1 : (dropZ p.key Z).length ≤ Z.length := (List.eraseIdx_sublist Z _).length_le; (try dsimp only); omega)) 43
    have hM85 : Mem S w0 w82 (⟨29, 3, v75, 1, [.string (sb (p.key)), v50, v51]⟩ :: ⟨82, 1, (obj b), 1, [v17]⟩ :: ⟨29, 3, v81, (List.length ((dropZ (p.key) Z) ++ ([(PZ.mk p v50 v51)] : List PZ))), (recs pzC ((dropZ (p.key) Z) ++ ([(PZ.mk p v50 v51)] : List PZ)))⟩ :: ⟨29, 3, (obj b1), 1, [.string (sb (p.key)), nv, wv]⟩ :: (T ++ T52)) := hM84.cast (by simp [ivals, svals, bvals, nvals, u8s, Nat.add_assoc, recs, pzC])
    have hS86 := hM85.sub (sD (sD (sD (sK sN))))
    refine GoH.stepF 8 (v81) (w82) ((Builtin.append_ #[43, 43] 43 #[v17, v75]).run Try.prog w76 = .ok v81 w82) (some 24) (by kernel_rfl) (hr83) (.inr hS86) ?_
    refine GoH.takeV 9 (pq b) (pq b) (some 25) (fun W_ => by kernel_rfl) rfl hS86 ?_
    refine GoH.takeV 10 (pq b) (pq b) (some 26) (fun W_ => by kernel_rfl) rfl hS86 ?_
    obtain ⟨w87, hr88, hM89⟩ := c_store (u := v81) (by kernel_rfl) hM85 1 rfl (cel_obj b 0) (by decide) (rd_one (hM85.rd 2 rfl)) (rd_cells (hM85.rd 2 rfl))
    have hM90 : Mem S w0 w87 (⟨29, 3, v75, 1, [.string (sb (p.key)), v50, v51]⟩ :: ⟨82, 1, (obj b), 1, [v81]⟩ :: ⟨29, 3, v81, (List.length ((dropZ (p.key) Z) ++ ([(PZ.mk p v50 v51)] : List PZ))), (recs pzC ((dropZ (p.key) Z) ++ ([(PZ.mk p v50 v51)] : List PZ)))⟩ :: ⟨29, 3, (obj b1), 1, [.string (sb (p.key)), nv, wv]⟩ :: (T ++ T52)) := hM89
    have hS91 := hM90.sub (sD (sD (sD (sK sN))))
    refine GoH.stepF 11 (undef) (w87) ((Instr.storeAt 43 (pq b) (v81)).run Try.prog w82 = .ok () w87 ∧ undef = undef) none (by kernel_rfl) (⟨hr88, rfl⟩) (.inr hS91) ?_
    refine GoH.done [] [] (by kernel_rfl) (by kernel_rfl) ?_
    have hM92 := hM90.sub (sD (sK (sK (sD sR))))
    refine GoS.run [4] [.n, .n, .n, .n] _ [.code (csub (cd Try.f19) [1,1,1,1,1])] [(4, .bool true)] w87 (by kernel_rfl) .nil ?_
    refine GoS.ret (fn := Try.f19) (v := (.bool true)) Try.func19 (by kernel_rfl) ?_
    rw [hR]
    have hc : checkP p = true := by simpa using h11
    exact ⟨_, ((dropZ (p.key) Z) ++ ([(PZ.mk p v50 v51)] : List PZ)), T ++ T52, ret_bool hc.symm, by rw [List.map_append, dropZ_pc]; unfold putK; rw [if_pos hc]; rfl, OwZ.snoc (fun z hz => (hT z (dropZ_sub z hz)).mono (fun r h => List.mem_append_left _ h)) (ho53.mono (fun r h => List.mem_append_right _ h)), fun r h => List.mem_append_left _ h, hM92.sub (sK (sK sR))⟩


end Go.Proofs.Ytcdcehjilneifaa
