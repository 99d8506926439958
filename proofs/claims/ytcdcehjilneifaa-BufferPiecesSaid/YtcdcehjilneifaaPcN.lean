/-
  The walks of CopyDoc, SameDoc.
-/
import Derived.Test.YtcdcehjilneifaaPcW
namespace Go.Proofs.Ytcdcehjilneifaa
open Go Go.Gw Go.UtfP Go.TokP Go.PcP Go.RowKit
set_option linter.unusedVariables false
set_option linter.unusedSimpArgs false
set_option maxRecDepth 20000

theorem eT57 : EqT Try.prog 57 := ⟨by kernel_rfl, by kernel_rfl, by kernel_rfl⟩
theorem oT25 : ObjT Try.prog 25 3 (.agg #[.string (sb ([])), .slice none 0 0, .slice none 0 0]) := ⟨⟨_, rfl, by kernel_rfl, by kernel_rfl⟩, rfl⟩
theorem aE25 : Agged Try.prog 25 3 := ⟨⟨_, Try.underlying25, .inl ⟨_, rfl⟩⟩, _, rfl, by kernel_rfl⟩

abbrev uN0 : List Nat := [1,1,1,0,1,0,0]
abbrev uN1 : List Nat := [1,1,0,1,0,0]
abbrev uN2 : List Nat := [1,1,1,1]
abbrev uN3 : List Nat := [1,1,1,0,1,0,0,1,1]
abbrev uN4 : List Nat := [1,1,0,1,0,0,1,1]
abbrev uN5 : List Nat := [1,1,1,0,1,0,0,1]
set_option maxHeartbeats 1000000 in
theorem cdoc_c {w : World} (d : Dc) (fv nv : Value) (hf : Rd w 2 fv d.fields.length (recs fdC d.fields)) (hn : Rd w 2 nv d.nums.length (recs nmC d.nums)) (hs1 : d.fields.length ≤ 4398046510976) (hs2 : d.nums.length ≤ 5864062014634) :
  Calls Try.prog 7 #[.agg #[sS (d.key), fv, nv]] w (fun e w' => ∃ (fv' nv' : Value), e = .returned (.agg #[sS d.key, fv', nv']) ∧ Mem [] w w' [⟨57, 2, fv', (List.length (d.fields)), (recs fdC (d.fields))⟩, ⟨60, 2, nv', (List.length (d.nums)), (recs nmC (d.nums))⟩]) := by
 have hl1 := rd_len hf
 have hl2 := rd_len hn
 simp only [maxLen] at hl1 hl2
 obtain ⟨R, hR⟩ : ∃ R : Ending → World → Prop, R = (fun e w' => ∃ (fv' nv' : Value), e = .returned (.agg #[sS d.key, fv', nv']) ∧ Mem [] w w' [⟨57, 2, fv', (List.length (d.fields)), (recs fdC (d.fields))⟩, ⟨60, 2, nv', (List.length (d.nums)), (recs nmC (d.nums))⟩]) := ⟨_, rfl⟩
 rw [← hR]
 refine GoS.enter (n := 14) Try.func7 (by kernel_rfl) rfl [(0, .agg #[sS (d.key), fv, nv])] (by kernel_rfl) (by kernel_rfl) ?_
 have hM0 := Mem.start w
 obtain ⟨b1, w2, hr3, hM4⟩ := m_box (T := 25) (k := 3) (u := .agg #[sS (d.key), fv, nv]) rfl rfl hM0
 have hM5 : Mem [] w w2 [⟨25, 3, (obj b1), 1, [sS (d.key), fv, nv]⟩] := hM4
 have o11 : (Instr.box 25 (.agg #[sS (d.key), fv, nv])).run Try.prog w = .ok (pq b1) w2 := hr3
 obtain ⟨b6, w7, hr8, hM9⟩ := m_alloc oT25 hM5
 have hM10 : Mem [] w w7 [⟨25, 3, (obj b6), 1, [sS ([]), .slice none 0 0, .slice none 0 0]⟩, ⟨25, 3, (obj b1), 1, [sS (d.key), fv, nv]⟩] := hM9
 refine GoS.run [1, 2] [.n, .n, .u (pq b1) (w2), .u (pq b6) (w7), .n, .n] _ [iC Try.f7 [1,0], iC Try.f7 [1,1]] [(1, pq b1), (2, pq b6)] w7 (by kernel_rfl) (.cons o11 (.cons hr8 .nil)) ?_
 obtain ⟨w12, hw13⟩ : ∃ w_, (w7).drewN 1 = w_ := ⟨_, rfl⟩
 refine GoS.held (fun W_ => Mem [] w W_ [⟨25, 3, (obj b6), 1, [sS ([]), .slice none 0 0, .slice none 0 0]⟩, ⟨25, 3, (obj b1), 1, [sS (d.key), fv, nv]⟩]) [11] 1 (by kernel_rfl) (by kernel_rfl) 12 (by kernel_rfl) ?_
 rw [hw13]
 have hM14 : Mem [] w w12 [⟨25, 3, (obj b6), 1, [sS ([]), .slice none 0 0, .slice none 0 0]⟩, ⟨25, 3, (obj b1), 1, [sS (d.key), fv, nv]⟩] := hw13 ▸ hM10.ext (Kept.drewN _ _ 1)
 have hS15 := hM14.sub (sK (sK sR))
 refine GoH.takeV 0 (pq b1) (pq b1) (some 3) (fun W_ => by kernel_rfl) rfl hS15 ?_
 refine GoH.takeF 1 (sS (d.key)) (fun W_ => (Instr.loadAt 9 (pq b1)).run Try.prog W_ = .ok (sS (d.key)) W_) (some 4) (fun W_ => by kernel_rfl) (fun W_ hW_ => c_load pE9 (hW_.rd 1 rfl) (cel_obj b1 0) rfl) hS15 ?_
 refine GoH.takeV 3 (.pointer (some (⟨b1, 1, none⟩))) (.pointer (some (⟨b1, 1, none⟩))) (some 6) (fun W_ => by kernel_rfl) rfl hS15 ?_
 refine GoH.takeF 4 (fv) (fun W_ => (Instr.loadAt 22 (.pointer (some (⟨b1, 1, none⟩)))).run Try.prog W_ = .ok (fv) W_) (some 7) (fun W_ => by kernel_rfl) (fun W_ hW_ => c_load pE22 (hW_.rd 1 rfl) (cel_obj b1 1) rfl) hS15 ?_
 refine GoH.takeV 7 (.pointer (some (⟨b1, 2, none⟩))) (.pointer (some (⟨b1, 2, none⟩))) (some 10) (fun W_ => by kernel_rfl) rfl hS15 ?_
 refine GoH.takeF 8 (nv) (fun W_ => (Instr.loadAt 23 (.pointer (some (⟨b1, 2, none⟩)))).run Try.prog W_ = .ok (nv) W_) (some 11) (fun W_ => by kernel_rfl) (fun W_ hW_ => c_load pE23 (hW_.rd 1 rfl) (cel_obj b1 2) rfl) hS15 ?_
 refine GoH.each [2, 6] (by kernel_rfl) (by kernel_rfl) ⟨?_, ?_, trivial⟩
 ·
  obtain ⟨v16, w17, hr18, hM19⟩ := m_lit sT22 hM14 (n := 0) (parts := #[]) (cs := []) (by decide) (by kernel_rfl) rfl
  have hS20 := hM19.sub (sD (sK (sK sR)))
  refine GoI.stepF 2 (v16) (w17) ((Instr.buildSlice 22 0 #[]).run Try.prog w12 = .ok v16 w17) (some 5) (by kernel_rfl) (hr18) (.inr hS20) ?_
  refine GoH.each [5, 6] (by kernel_rfl) (by kernel_rfl) ⟨?_, ?_, trivial⟩
  ·
   obtain ⟨v21, w22, hr23, hM24⟩ := m_append sT22 hM19 0 rfl (hf.kept0 hM19.kept) (recs_ones fdC_one (d.fields)) (by first | omega | (dsimp only; omega)) (by first | omega | (dsimp only; omega)) 22
   have hM25 : Mem [] w w22 [⟨57, 2, v21, (List.length (d.fields)), (recs fdC (d.fields))⟩, ⟨25, 3, (obj b6), 1, [sS ([]), .slice none 0 0, .slice none 0 0]⟩, ⟨25, 3, (obj b1), 1, [sS (d.key), fv, nv]⟩] := hM24.cast (by simp [ivals, svals, bvals, nvals, u8s, Nat.add_assoc, recs, fdC])
   have hS26 := hM25.sub (sD (sK (sK sR)))
   refine GoI.stepF 5 (v21) (w22) ((Builtin.append_ #[22, 22] 22 #[v16, fv]).run Try.prog w17 = .ok v21 w22) (some 8) (by kernel_rfl) (hr23) (.inr hS26) ?_
   obtain ⟨v27, w28, hr29, hM30⟩ := m_lit sT23 hM25 (n := 0) (parts := #[]) (cs := []) (by decide) (by kernel_rfl) rfl
   have hS31 := hM30.sub (sD (sD (sK (sK sR))))
   refine GoH.stepF 6 (v27) (w28) ((Instr.buildSlice 23 0 #[]).run Try.prog w22 = .ok v27 w28) (some 9) (by kernel_rfl) (hr29) (.inr hS31) ?_
   obtain ⟨v32, w33, hr34, hM35⟩ := m_append sT23 hM30 0 rfl (hn.kept0 hM30.kept) (recs_ones nmC_one (d.nums)) (by first | omega | (dsimp only; omega)) (by first | omega | (dsimp only; omega)) 23
   have hM36 : Mem [] w w33 [⟨60, 2, v32, (List.length (d.nums)), (recs nmC (d.nums))⟩, ⟨57, 2, v21, (List.length (d.fields)), (recs fdC (d.fields))⟩, ⟨25, 3, (obj b6), 1, [sS ([]), .slice none 0 0, .slice none 0 0]⟩, ⟨25, 3, (obj b1), 1, [sS (d.key), fv, nv]⟩] := hM35.cast (by simp [ivals, svals, bvals, nvals, u8s, Nat.add_assoc, recs, nmC])
   have hS37 := hM36.sub (sD (sD (sK (sK sR))))
   refine GoH.stepF 9 (v32) (w33) ((Builtin.append_ #[23, 23] 23 #[v27, nv]).run Try.prog w28 = .ok v32 w33) (some 12) (by kernel_rfl) (hr34) (.inr hS37) ?_
   have hS38 := hM36.sub (sD (sD (sK (sK sR))))
   refine GoH.stepF 10 (.agg #[sS (d.key), v21, v32]) (w33) ((Instr.build 25 #[(0, sS (d.key)), (1, v21), (2, v32)]).run Try.prog w33 = .ok (.agg #[sS (d.key), v21, v32]) w33) (some 13) (by kernel_rfl) ((by obtain ⟨a0_, m0_, c0_, e0_⟩ : ∃ a m c, v21 = Value.slice a m c := rd_form (hM36.rd 1 rfl); rw [e0_]; obtain ⟨a1_, m1_, c1_, e1_⟩ : ∃ a m c, v32 = Value.slice a m c := rd_form (hM36.rd 0 rfl); rw [e1_]; kernel_rfl)) (.inr hS38) ?_
   obtain ⟨w39, hr40, hM41⟩ := c_stores (ys := [sS (d.key), v21, v32]) aE25 hM36 2 rfl (cel_obj b6 0) rfl (by decide) (by intro u hu; simp at hu; rcases hu with rfl | rfl | rfl <;> first | rfl | exact (rd_one (hM36.rd 1 rfl)) | exact (rd_one (hM36.rd 0 rfl)))
   have hM42 : Mem [] w w39 [⟨60, 2, v32, (List.length (d.nums)), (recs nmC (d.nums))⟩, ⟨57, 2, v21, (List.length (d.fields)), (recs fdC (d.fields))⟩, ⟨25, 3, (obj b6), 1, [sS (d.key), v21, v32]⟩, ⟨25, 3, (obj b1), 1, [sS (d.key), fv, nv]⟩] := hM41
   refine GoH.stepF 11 (undef) (w39) ((Instr.storeAt 25 (pq b6) (.agg #[sS (d.key), v21, v32])).run Try.prog w33 = .ok () w39 ∧ undef = undef) none (by kernel_rfl) (⟨hr40, rfl⟩) (.inl rfl) ?_
   refine GoH.done [2] [(2, pq b6)] (by kernel_rfl) (by kernel_rfl) ?_
   have hM43 := hM42.sub (sK (sK (sK (sD sR))))
   have o95 : (Instr.loadAt 25 (pq b6)).run Try.prog w39 = .ok (.agg #[sS (d.key), v21, v32]) w39 := c_loads (ys := [sS (d.key), v21, v32]) aE25 (hM43.rd 2 rfl) (cel_obj b6 0) rfl (by intro j u hj; match j, hj with | 0, hj => exact hj | 1, hj => exact hj | 2, hj => exact hj | n + 3, hj => cases hj)
   refine GoS.retC (fn := Try.f7) (rs := [.cell 2 25]) [.agg #[sS (d.key), v21, v32]] (v := (.agg #[sS (d.key), v21, v32])) Try.func7 (by kernel_rfl) (ResC.cell (by kernel_rfl) o95 ResC.nil) rfl ?_
   rw [hR]
   have hM96 : Mem [] w w39 [⟨57, 2, v21, (List.length (d.fields)), (recs fdC (d.fields))⟩, ⟨60, 2, v32, (List.length (d.nums)), (recs nmC (d.nums))⟩, ⟨25, 3, (obj b6), 1, [sS (d.key), v21, v32]⟩] := hM43.perm (pS pR)
   exact ⟨_, _, rfl, hM96.sub (sK (sK (sD sN)))⟩
  ·
   obtain ⟨v44, w45, hr46, hM47⟩ := m_lit sT23 hM19 (n := 0) (parts := #[]) (cs := []) (by decide) (by kernel_rfl) rfl
   have hS48 := hM47.sub (sD (sD (sK (sK sR))))
   refine GoI.stepF 6 (v44) (w45) ((Instr.buildSlice 23 0 #[]).run Try.prog w17 = .ok v44 w45) (some 9) (by kernel_rfl) (hr46) (.inr hS48) ?_
   obtain ⟨v49, w50, hr51, hM52⟩ := m_append sT22 hM47 1 rfl (hf.kept0 hM47.kept) (recs_ones fdC_one (d.fields)) (by first | omega | (dsimp only; omega)) (by first | omega | (dsimp only; omega)) 22
   have hM53 : Mem [] w w50 [⟨60, 2, v44, 0, []⟩, ⟨57, 2, v49, (List.length (d.fields)), (recs fdC (d.fields))⟩, ⟨25, 3, (obj b6), 1, [sS ([]), .slice none 0 0, .slice none 0 0]⟩, ⟨25, 3, (obj b1), 1, [sS (d.key), fv, nv]⟩] := hM52.cast (by simp [ivals, svals, bvals, nvals, u8s, Nat.add_assoc, recs, fdC])
   have hS54 := hM53.sub (sD (sD (sK (sK sR))))
   refine GoH.stepF 5 (v49) (w50) ((Builtin.append_ #[22, 22] 22 #[v16, fv]).run Try.prog w45 = .ok v49 w50) (some 8) (by kernel_rfl) (hr51) (.inr hS54) ?_
   obtain ⟨v55, w56, hr57, hM58⟩ := m_append sT23 hM53 0 rfl (hn.kept0 hM53.kept) (recs_ones nmC_one (d.nums)) (by first | omega | (dsimp only; omega)) (by first | omega | (dsimp only; omega)) 23
   have hM59 : Mem [] w w56 [⟨60, 2, v55, (List.length (d.nums)), (recs nmC (d.nums))⟩, ⟨57, 2, v49, (List.length (d.fields)), (recs fdC (d.fields))⟩, ⟨25, 3, (obj b6), 1, [sS ([]), .slice none 0 0, .slice none 0 0]⟩, ⟨25, 3, (obj b1), 1, [sS (d.key), fv, nv]⟩] := hM58.cast (by simp [ivals, svals, bvals, nvals, u8s, Nat.add_assoc, recs, nmC])
   have hS60 := hM59.sub (sD (sD (sK (sK sR))))
   refine GoH.stepF 9 (v55) (w56) ((Builtin.append_ #[23, 23] 23 #[v44, nv]).run Try.prog w50 = .ok v55 w56) (some 12) (by kernel_rfl) (hr57) (.inr hS60) ?_
   have hS61 := hM59.sub (sD (sD (sK (sK sR))))
   refine GoH.stepF 10 (.agg #[sS (d.key), v49, v55]) (w56) ((Instr.build 25 #[(0, sS (d.key)), (1, v49), (2, v55)]).run Try.prog w56 = .ok (.agg #[sS (d.key), v49, v55]) w56) (some 13) (by kernel_rfl) ((by obtain ⟨a0_, m0_, c0_, e0_⟩ : ∃ a m c, v49 = Value.slice a m c := rd_form (hM59.rd 1 rfl); rw [e0_]; obtain ⟨a1_, m1_, c1_, e1_⟩ : ∃ a m c, v55 = Value.slice a m c := rd_form (hM59.rd 0 rfl); rw [e1_]; kernel_rfl)) (.inr hS61) ?_
   obtain ⟨w62, hr63, hM64⟩ := c_stores (ys := [sS (d.key), v49, v55]) aE25 hM59 2 rfl (cel_obj b6 0) rfl (by decide) (by intro u hu; simp at hu; rcases hu with rfl | rfl | rfl <;> first | rfl | exact (rd_one (hM59.rd 1 rfl)) | exact (rd_one (hM59.rd 0 rfl)))
   have hM65 : Mem [] w w62 [⟨60, 2, v55, (List.length (d.nums)), (recs nmC (d.nums))⟩, ⟨57, 2, v49, (List.length (d.fields)), (recs fdC (d.fields))⟩, ⟨25, 3, (obj b6), 1, [sS (d.key), v49, v55]⟩, ⟨25, 3, (obj b1), 1, [sS (d.key), fv, nv]⟩] := hM64
   refine GoH.stepF 11 (undef) (w62) ((Instr.storeAt 25 (pq b6) (.agg #[sS (d.key), v49, v55])).run Try.prog w56 = .ok () w62 ∧ undef = undef) none (by kernel_rfl) (⟨hr63, rfl⟩) (.inl rfl) ?_
   refine GoH.done [2] [(2, pq b6)] (by kernel_rfl) (by kernel_rfl) ?_
   have hM66 := hM65.sub (sK (sK (sK (sD sR))))
   have o97 : (Instr.loadAt 25 (pq b6)).run Try.prog w62 = .ok (.agg #[sS (d.key), v49, v55]) w62 := c_loads (ys := [sS (d.key), v49, v55]) aE25 (hM66.rd 2 rfl) (cel_obj b6 0) rfl (by intro j u hj; match j, hj with | 0, hj => exact hj | 1, hj => exact hj | 2, hj => exact hj | n + 3, hj => cases hj)
   refine GoS.retC (fn := Try.f7) (rs := [.cell 2 25]) [.agg #[sS (d.key), v49, v55]] (v := (.agg #[sS (d.key), v49, v55])) Try.func7 (by kernel_rfl) (ResC.cell (by kernel_rfl) o97 ResC.nil) rfl ?_
   rw [hR]
   have hM98 : Mem [] w w62 [⟨57, 2, v49, (List.length (d.fields)), (recs fdC (d.fields))⟩, ⟨60, 2, v55, (List.length (d.nums)), (recs nmC (d.nums))⟩, ⟨25, 3, (obj b6), 1, [sS (d.key), v49, v55]⟩] := hM66.perm (pS pR)
   exact ⟨_, _, rfl, hM98.sub (sK (sK (sD sN)))⟩
 ·
  obtain ⟨v67, w68, hr69, hM70⟩ := m_lit sT23 hM14 (n := 0) (parts := #[]) (cs := []) (by decide) (by kernel_rfl) rfl
  have hS71 := hM70.sub (sD (sK (sK sR)))
  refine GoI.stepF 6 (v67) (w68) ((Instr.buildSlice 23 0 #[]).run Try.prog w12 = .ok v67 w68) (some 9) (by kernel_rfl) (hr69) (.inr hS71) ?_
  obtain ⟨v72, w73, hr74, hM75⟩ := m_lit sT22 hM70 (n := 0) (parts := #[]) (cs := []) (by decide) (by kernel_rfl) rfl
  have hS76 := hM75.sub (sD (sD (sK (sK sR))))
  refine GoH.stepF 2 (v72) (w73) ((Instr.buildSlice 22 0 #[]).run Try.prog w68 = .ok v72 w73) (some 5) (by kernel_rfl) (hr74) (.inr hS76) ?_
  obtain ⟨v77, w78, hr79, hM80⟩ := m_append sT22 hM75 0 rfl (hf.kept0 hM75.kept) (recs_ones fdC_one (d.fields)) (by first | omega | (dsimp only; omega)) (by first | omega | (dsimp only; omega)) 22
  have hM81 : Mem [] w w78 [⟨57, 2, v77, (List.length (d.fields)), (recs fdC (d.fields))⟩, ⟨60, 2, v67, 0, []⟩, ⟨25, 3, (obj b6), 1, [sS ([]), .slice none 0 0, .slice none 0 0]⟩, ⟨25, 3, (obj b1), 1, [sS (d.key), fv, nv]⟩] := hM80.cast (by simp [ivals, svals, bvals, nvals, u8s, Nat.add_assoc, recs, fdC])
  have hS82 := hM81.sub (sD (sD (sK (sK sR))))
  refine GoH.stepF 5 (v77) (w78) ((Builtin.append_ #[22, 22] 22 #[v72, fv]).run Try.prog w73 = .ok v77 w78) (some 8) (by kernel_rfl) (hr79) (.inr hS82) ?_
  obtain ⟨v83, w84, hr85, hM86⟩ := m_append sT23 hM81 1 rfl (hn.kept0 hM81.kept) (recs_ones nmC_one (d.nums)) (by first | omega | (dsimp only; omega)) (by first | omega | (dsimp only; omega)) 23
  have hM87 : Mem [] w w84 [⟨57, 2, v77, (List.length (d.fields)), (recs fdC (d.fields))⟩, ⟨60, 2, v83, (List.length (d.nums)), (recs nmC (d.nums))⟩, ⟨25, 3, (obj b6), 1, [sS ([]), .slice none 0 0, .slice none 0 0]⟩, ⟨25, 3, (obj b1), 1, [sS (d.key), fv, nv]⟩] := hM86.cast (by simp [ivals, svals, bvals, nvals, u8s, Nat.add_assoc, recs, nmC])
  have hS88 := hM87.sub (sD (sD (sK (sK sR))))
  refine GoH.stepF 9 (v83) (w84) ((Builtin.append_ #[23, 23] 23 #[v67, nv]).run Try.prog w78 = .ok v83 w84) (some 12) (by kernel_rfl) (hr85) (.inr hS88) ?_
  have hS89 := hM87.sub (sD (sD (sK (sK sR))))
  refine GoH.stepF 10 (.agg #[sS (d.key), v77, v83]) (w84) ((Instr.build 25 #[(0, sS (d.key)), (1, v77), (2, v83)]).run Try.prog w84 = .ok (.agg #[sS (d.key), v77, v83]) w84) (some 13) (by kernel_rfl) ((by obtain ⟨a0_, m0_, c0_, e0_⟩ : ∃ a m c, v77 = Value.slice a m c := rd_form (hM87.rd 0 rfl); rw [e0_]; obtain ⟨a1_, m1_, c1_, e1_⟩ : ∃ a m c, v83 = Value.slice a m c := rd_form (hM87.rd 1 rfl); rw [e1_]; kernel_rfl)) (.inr hS89) ?_
  obtain ⟨w90, hr91, hM92⟩ := c_stores (ys := [sS (d.key), v77, v83]) aE25 hM87 2 rfl (cel_obj b6 0) rfl (by decide) (by intro u hu; simp at hu; rcases hu with rfl | rfl | rfl <;> first | rfl | exact (rd_one (hM87.rd 0 rfl)) | exact (rd_one (hM87.rd 1 rfl)))
  have hM93 : Mem [] w w90 [⟨57, 2, v77, (List.length (d.fields)), (recs fdC (d.fields))⟩, ⟨60, 2, v83, (List.length (d.nums)), (recs nmC (d.nums))⟩, ⟨25, 3, (obj b6), 1, [sS (d.key), v77, v83]⟩, ⟨25, 3, (obj b1), 1, [sS (d.key), fv, nv]⟩] := hM92
  refine GoH.stepF 11 (undef) (w90) ((Instr.storeAt 25 (pq b6) (.agg #[sS (d.key), v77, v83])).run Try.prog w84 = .ok () w90 ∧ undef = undef) none (by kernel_rfl) (⟨hr91, rfl⟩) (.inl rfl) ?_
  refine GoH.done [2] [(2, pq b6)] (by kernel_rfl) (by kernel_rfl) ?_
  have hM94 := hM93.sub (sK (sK (sK (sD sR))))
  have o99 : (Instr.loadAt 25 (pq b6)).run Try.prog w90 = .ok (.agg #[sS (d.key), v77, v83]) w90 := c_loads (ys := [sS (d.key), v77, v83]) aE25 (hM94.rd 2 rfl) (cel_obj b6 0) rfl (by intro j u hj; match j, hj with | 0, hj => exact hj | 1, hj => exact hj | 2, hj => exact hj | n + 3, hj => cases hj)
  refine GoS.retC (fn := Try.f7) (rs := [.cell 2 25]) [.agg #[sS (d.key), v77, v83]] (v := (.agg #[sS (d.key), v77, v83])) Try.func7 (by kernel_rfl) (ResC.cell (by kernel_rfl) o99 ResC.nil) rfl ?_
  rw [hR]
  exact ⟨_, _, rfl, hM94.sub (sK (sK (sD sN)))⟩

set_option maxHeartbeats 1000000 in
theorem sdoc_L2 {w0 : World} (d c : Dc) (fv nv fu nu : Value) (hf : Rd w0 2 fv d.fields.length (recs fdC d.fields)) (hn : Rd w0 2 nv d.nums.length (recs nmC d.nums)) (hf2 : Rd w0 2 fu c.fields.length (recs fdC c.fields)) (hn2 : Rd w0 2 nu c.nums.length (recs nmC c.nums)) (hk : d.key = c.key) (he : d.fields = c.fields) (hl2 : d.nums.length = c.nums.length) (ba bb : Nat) (R : Ending → World → Prop) (hR : R = (fun e w' => e = .returned (.bool (decide (d = c))) ∧ Mem [] w0 w' [])) : ∀ (N : Nat) (i : Nat) (w : World) (hi : i ≤ d.nums.length) (hw : ∀ j, j < i → d.nums.getD j nz = c.nums.getD j nz) (hM : Mem [] w0 w [⟨25, 3, (obj ba), 1, [sS (d.key), fv, nv]⟩, ⟨25, 3, (obj bb), 1, [sS (c.key), fu, nu]⟩]) (hN : d.nums.length - i < N), GoS Try.prog 12 R 66 [iC Try.f12 uN0, iL Try.f12 uN0, .inBlock 2, iC Try.f12 uN2] [(2, pq ba), (3, pq bb), (6, iN i)] w := by
 intro N
 induction N with
 | zero => intro i w hi hw hM hN; exact absurd hN (Nat.not_lt_zero _)
 | succ N ih =>
  intro i w hi hw hM hN
  have hq1 := rd_len hf
  have hq2 := rd_len hn
  simp only [maxLen] at hq1 hq2
  have o1 : (Instr.loadAt 23 (.pointer (some (⟨ba, 2, none⟩)))).run Try.prog w = .ok (nv) w := c_load pE23 (hM.rd 0 rfl) (cel_obj ba 2) rfl
  have o2 : (Builtin.len_ #[23] 3 #[nv]).run Try.prog w = .ok (iN (List.length (d.nums))) w := f_slen sT23 (hn.kept0 hM.kept) 3 _
  refine GoS.run [2, 3, 6, 52] [.n, .n, .n, .n, .n, .h (nv), .h (iN (List.length (d.nums))), .n, .n] _ [iC Try.f12 [1,1,1,0,1,0,0,0,1], iC Try.f12 uN5, iL Try.f12 uN0, .inBlock 2, iC Try.f12 uN2] [(2, pq ba), (3, pq bb), (6, iN i), (52, .bool (decide (((i : Nat) : Int) < (((List.length (d.nums)) : Nat) : Int))))] w (by kernel_rfl) (.cons o1 (.cons o2 .nil)) ?_
  refine GoS.cond (decide (((i : Nat) : Int) < (((List.length (d.nums)) : Nat) : Int))) [iC Try.f12 [1,1,1,0,1,0,0,0,1,0], iC Try.f12 uN5, iL Try.f12 uN0, .inBlock 2, iC Try.f12 uN2] [iC Try.f12 [1,1,1,0,1,0,0,0,1,1], iC Try.f12 uN5, iL Try.f12 uN0, .inBlock 2, iC Try.f12 uN2] (by kernel_rfl) (fun h3 => ?_) (fun h3 => ?_)
  ·
   have h3p : ((i : Nat) : Int) < (((List.length (d.nums)) : Nat) : Int) := of_decide_eq_true h3
   refine GoS.run [2, 3, 6] [.n] _ [iC Try.f12 uN5, iL Try.f12 uN0, .inBlock 2, iC Try.f12 uN2] [(2, pq ba), (3, pq bb), (6, iN i)] w (by kernel_rfl) .nil ?_
   refine GoS.run [2, 3, 6] [.n, .n, .n] _ [iC Try.f12 [1,1,1,0,1,0,0,1,0,0,0], iC Try.f12 [1,1,1,0,1,0,0,1,0,0,1], .inBlock 3, iC Try.f12 uN3, iL Try.f12 uN0, .inBlock 2, iC Try.f12 uN2] [(2, pq ba), (3, pq bb), (6, iN i)] w (by kernel_rfl) .nil ?_
   obtain ⟨p5, hp6, hq7⟩ := rd_at (i := ((i : Nat) : Int)) sT23 (hn.kept0 hM.kept) i (by omega) (by first | omega | (dsimp only; omega))
   obtain ⟨p8, hp9, hq10⟩ := rd_at (i := ((i : Nat) : Int)) sT23 (hn2.kept0 hM.kept) i (by omega) (by first | omega | (dsimp only; omega))
   refine GoS.drawC (fun W_ => Kept [] w W_) 11 (by kernel_rfl) [2, 3, 6, 65] [.u (.pointer (some (⟨ba, 2, none⟩))) w, .h (nv), .u (iN i) w, .h (.pointer (some p5)), .h (.agg #[sS ((List.getD (d.nums) i nz).name), .int .u64 ((List.getD (d.nums) i nz).bits)]), .u (.pointer (some (⟨bb, 2, none⟩))) w, .h (nu), .u (iN i) w, .h (.pointer (some p8)), .h (.agg #[sS ((List.getD (c.nums) i nz).name), .int .u64 ((List.getD (c.nums) i nz).bits)]), .h (.bool (!(decide (List.getD (d.nums) i nz = List.getD (c.nums) i nz))))] (fun W_ => [(Instr.loadAt 23 (.pointer (some (⟨ba, 2, none⟩)))).run Try.prog W_ = .ok (nv) W_, (Instr.indexAt 23 (nv) (iN i)).run Try.prog W_ = .ok (.pointer (some p5)) W_, (Instr.loadAt 60 (.pointer (some p5))).run Try.prog W_ = .ok (.agg #[sS ((List.getD (d.nums) i nz).name), .int .u64 ((List.getD (d.nums) i nz).bits)]) W_, (Instr.loadAt 23 (.pointer (some (⟨bb, 2, none⟩)))).run Try.prog W_ = .ok (nu) W_, (Instr.indexAt 23 (nu) (iN i)).run Try.prog W_ = .ok (.pointer (some p8)) W_, (Instr.loadAt 60 (.pointer (some p8))).run Try.prog W_ = .ok (.agg #[sS ((List.getD (c.nums) i nz).name), .int .u64 ((List.getD (c.nums) i nz).bits)]) W_, Try.prog.eqGuardType Try.prog.depth 60 = false ∧ (binOp .neq 60 (.agg #[sS ((List.getD (d.nums) i nz).name), .int .u64 ((List.getD (d.nums) i nz).bits)]) (.agg #[sS ((List.getD (c.nums) i nz).name), .int .u64 ((List.getD (c.nums) i nz).bits)])).run Try.prog W_ = .ok (.bool (!(decide (List.getD (d.nums) i nz = List.getD (c.nums) i nz)))) W_]) [(.pointer (some (⟨ba, 2, none⟩)), .pointer (some (⟨ba, 2, none⟩))), (iN i, iN i), (.pointer (some (⟨bb, 2, none⟩)), .pointer (some (⟨bb, 2, none⟩))), (iN i, iN i)] [(2, pq ba), (3, pq bb), (6, iN i), (65, .bool (!(decide (List.getD (d.nums) i nz = List.getD (c.nums) i nz))))] (by kernel_rfl) (by kernel_rfl) ([(65, .bool (!(decide (List.getD (d.nums) i nz = List.getD (c.nums) i nz)))), (64, .agg #[sS ((List.getD (c.nums) i nz).name), .int .u64 ((List.getD (c.nums) i nz).bits)]), (63, .pointer (some p8)), (62, iN i), (61, nu), (60, .pointer (some (⟨bb, 2, none⟩))), (59, .agg #[sS ((List.getD (d.nums) i nz).name), .int .u64 ((List.getD (d.nums) i nz).bits)]), (58, .pointer (some p5)), (57, iN i), (56, nv), (55, .pointer (some (⟨ba, 2, none⟩)))] ++ [(2, pq ba), (3, pq bb), (6, iN i)]) (fun W_ => by kernel_rfl) (by kernel_rfl) (.cons rfl (.cons rfl (.cons rfl (.cons rfl Obs.nil)))) (Kept.drewN _ _ 1) (fun W_ hW_ => (.cons (c_load pE23 ((hM.rd 0 rfl).kept0 hW_) (cel_obj ba 2) rfl) (.cons (hq7 _ _) (.cons (r_loads (f := nmC) (l := (d.nums)) aE60 ((hn.kept0 hM.kept).kept0 hW_) nmC_len hp6 (by first | omega | (dsimp only; omega)) nz) (.cons (c_load pE23 ((hM.rd 1 rfl).kept0 hW_) (cel_obj bb 2) rfl) (.cons (hq10 _ _) (.cons (r_loads (f := nmC) (l := (c.nums)) aE60 ((hn2.kept0 hM.kept).kept0 hW_) nmC_len hp9 (by first | omega | (dsimp only; omega)) nz) (.cons (f_agneq eT60 (xs := [sS ((List.getD (d.nums) i nz).name), .int .u64 ((List.getD (d.nums) i nz).bits)]) (ys := [sS ((List.getD (c.nums) i nz).name), .int .u64 ((List.getD (c.nums) i nz).bits)]) (r := (((sb ((List.getD (d.nums) i nz).name)).toList == (sb ((List.getD (c.nums) i nz).name)).toList) && ((((List.getD (d.nums) i nz).bits) == ((List.getD (c.nums) i nz).bits)) && true))) (by kernel_rfl) ((congrArg Bool.not (nm_beq _ _)))) Obs.nil)))))))) (fun w11 hw12 => ?_)
   have hM13 := hM.ext hw12
   refine GoS.cond (!(decide (List.getD (d.nums) i nz = List.getD (c.nums) i nz))) [iC Try.f12 [1,1,1,0,1,0,0,1,0,0,1,0], .inBlock 3, iC Try.f12 uN3, iL Try.f12 uN0, .inBlock 2, iC Try.f12 uN2] [iC Try.f12 [1,1,1,0,1,0,0,1,0,0,1,1], .inBlock 3, iC Try.f12 uN3, iL Try.f12 uN0, .inBlock 2, iC Try.f12 uN2] (by kernel_rfl) (fun h14 => ?_) (fun h14 => ?_)
   ·
    have h14p : ¬ (List.getD (d.nums) i nz = List.getD (c.nums) i nz) := of_decide_eq_false (p_nf h14)
    have hM15 := hM13.sub (sD (sD sR))
    refine GoS.run [4] [.n, .n, .n, .n] _ [iC Try.f12 [1,1,1,0,1,0,0,1,0,0,1,0,1], .inBlock 3, iC Try.f12 uN3, iL Try.f12 uN0, .inBlock 2, iC Try.f12 uN2] [(4, .bool false)] w11 (by kernel_rfl) .nil ?_
    refine GoS.ret (fn := Try.f12) (v := (.bool false)) Try.func12 (by kernel_rfl) ?_
    rw [hR]
    exact ⟨ret_bool (sd_nums (ne_getD nz i h14p)).symm, hM15.sub sN⟩
   ·
    have h14p : List.getD (d.nums) i nz = List.getD (c.nums) i nz := of_decide_eq_true (p_nt h14)
    refine GoS.run [2, 3, 6] [.n] _ [.inBlock 3, iC Try.f12 uN3, iL Try.f12 uN0, .inBlock 2, iC Try.f12 uN2] [(2, pq ba), (3, pq bb), (6, iN i)] w11 (by kernel_rfl) .nil ?_
    have o16 : (binOp .add 3 (iN i) (.int .i64 1)).run Try.prog w11 = .ok (iN (i + 1)) w11 := f_add (by rw [show ((i : Nat) : Int) + 1 = (((i + 1) : Nat) : Int) by omega]; exact IntWalk.i64_in _ (by omega))
    refine GoS.run [2, 3, 6] [.n, .n, .n, .h (iN (i + 1)), .n, .n, .n] _ [iC Try.f12 uN0, iL Try.f12 uN0, .inBlock 2, iC Try.f12 uN2] [(2, pq ba), (3, pq bb), (6, iN (i + 1))] w11 (by kernel_rfl) (.cons o16 .nil) ?_
    exact ih (i + 1) _ (by omega) (fun j hj => by rcases Nat.lt_succ_iff_lt_or_eq.1 hj with g | g; exact hw j g; subst g; exact h14p) (hM13.sub (sK (sK sN))) (by omega)
  ·
   have h3p : ¬ (((i : Nat) : Int) < (((List.length (d.nums)) : Nat) : Int)) := of_decide_eq_false h3
   have hM4 := hM.sub (sD (sD sR))
   refine GoS.run [4] [.n, .n, .n, .n, .n] _ [iC Try.f12 [1,1,1,1,1]] [(4, .bool true)] w (by kernel_rfl) .nil ?_
   refine GoS.ret (fn := Try.f12) (v := (.bool true)) Try.func12 (by kernel_rfl) ?_
   rw [hR]
   exact ⟨ret_bool (sd_all hk he (ext_getD nz hl2 (fun j hj => hw j (by omega)))).symm, hM4.sub sN⟩

set_option maxHeartbeats 1000000 in
theorem sdoc_L1 {w0 : World} (d c : Dc) (fv nv fu nu : Value) (hf : Rd w0 2 fv d.fields.length (recs fdC d.fields)) (hn : Rd w0 2 nv d.nums.length (recs nmC d.nums)) (hf2 : Rd w0 2 fu c.fields.length (recs fdC c.fields)) (hn2 : Rd w0 2 nu c.nums.length (recs nmC c.nums)) (hk : d.key = c.key) (hl1 : d.fields.length = c.fields.length) (hl2 : d.nums.length = c.nums.length) (ba bb : Nat) (R : Ending → World → Prop) (hR : R = (fun e w' => e = .returned (.bool (decide (d = c))) ∧ Mem [] w0 w' [])) : ∀ (N : Nat) (i : Nat) (w : World) (hi : i ≤ d.fields.length) (hw : ∀ j, j < i → d.fields.getD j fz = c.fields.getD j fz) (hM : Mem [] w0 w [⟨25, 3, (obj ba), 1, [sS (d.key), fv, nv]⟩, ⟨25, 3, (obj bb), 1, [sS (c.key), fu, nu]⟩]) (hN : d.fields.length - i < N), GoS Try.prog 12 R 66 [iC Try.f12 uN1, iL Try.f12 uN1, .inBlock 0, iC Try.f12 [1,1,1]] [(2, pq ba), (3, pq bb), (5, iN i)] w := by
 intro N
 induction N with
 | zero => intro i w hi hw hM hN; exact absurd hN (Nat.not_lt_zero _)
 | succ N ih =>
  intro i w hi hw hM hN
  have hq1 := rd_len hf
  have hq2 := rd_len hn
  simp only [maxLen] at hq1 hq2
  have o1 : (Instr.loadAt 22 (.pointer (some (⟨ba, 1, none⟩)))).run Try.prog w = .ok (fv) w := c_load pE22 (hM.rd 0 rfl) (cel_obj ba 1) rfl
  have o2 : (Builtin.len_ #[22] 3 #[fv]).run Try.prog w = .ok (iN (List.length (d.fields))) w := f_slen sT22 (hf.kept0 hM.kept) 3 _
  refine GoS.run [2, 3, 5, 34] [.n, .n, .n, .n, .n, .h (fv), .h (iN (List.length (d.fields))), .n, .n] _ [iC Try.f12 [1,1,0,1,0,0,0,1], iC Try.f12 [1,1,0,1,0,0,1], iL Try.f12 uN1, .inBlock 0, iC Try.f12 [1,1,1]] [(2, pq ba), (3, pq bb), (5, iN i), (34, .bool (decide (((i : Nat) : Int) < (((List.length (d.fields)) : Nat) : Int))))] w (by kernel_rfl) (.cons o1 (.cons o2 .nil)) ?_
  refine GoS.cond (decide (((i : Nat) : Int) < (((List.length (d.fields)) : Nat) : Int))) [iC Try.f12 [1,1,0,1,0,0,0,1,0], iC Try.f12 [1,1,0,1,0,0,1], iL Try.f12 uN1, .inBlock 0, iC Try.f12 [1,1,1]] [iC Try.f12 [1,1,0,1,0,0,0,1,1], iC Try.f12 [1,1,0,1,0,0,1], iL Try.f12 uN1, .inBlock 0, iC Try.f12 [1,1,1]] (by kernel_rfl) (fun h3 => ?_) (fun h3 => ?_)
  ·
   have h3p : ((i : Nat) : Int) < (((List.length (d.fields)) : Nat) : Int) := of_decide_eq_true h3
   refine GoS.run [2, 3, 5] [.n] _ [iC Try.f12 [1,1,0,1,0,0,1], iL Try.f12 uN1, .inBlock 0, iC Try.f12 [1,1,1]] [(2, pq ba), (3, pq bb), (5, iN i)] w (by kernel_rfl) .nil ?_
   refine GoS.run [2, 3, 5] [.n, .n, .n] _ [iC Try.f12 [1,1,0,1,0,0,1,0,0,0], iC Try.f12 [1,1,0,1,0,0,1,0,0,1], .inBlock 1, iC Try.f12 uN4, iL Try.f12 uN1, .inBlock 0, iC Try.f12 [1,1,1]] [(2, pq ba), (3, pq bb), (5, iN i)] w (by kernel_rfl) .nil ?_
   obtain ⟨p4, hp5, hq6⟩ := rd_at (i := ((i : Nat) : Int)) sT22 (hf.kept0 hM.kept) i (by omega) (by first | omega | (dsimp only; omega))
   obtain ⟨p7, hp8, hq9⟩ := rd_at (i := ((i : Nat) : Int)) sT22 (hf2.kept0 hM.kept) i (by omega) (by first | omega | (dsimp only; omega))
   refine GoS.drawC (fun W_ => Kept [] w W_) 6 (by kernel_rfl) [2, 3, 5, 47] [.u (.pointer (some (⟨ba, 1, none⟩))) w, .h (fv), .u (iN i) w, .h (.pointer (some p4)), .h (.agg #[sS ((List.getD (d.fields) i fz).name), sS ((List.getD (d.fields) i fz).text)]), .u (.pointer (some (⟨bb, 1, none⟩))) w, .h (fu), .u (iN i) w, .h (.pointer (some p7)), .h (.agg #[sS ((List.getD (c.fields) i fz).name), sS ((List.getD (c.fields) i fz).text)]), .h (.bool (!(decide (List.getD (d.fields) i fz = List.getD (c.fields) i fz))))] (fun W_ => [(Instr.loadAt 22 (.pointer (some (⟨ba, 1, none⟩)))).run Try.prog W_ = .ok (fv) W_, (Instr.indexAt 22 (fv) (iN i)).run Try.prog W_ = .ok (.pointer (some p4)) W_, (Instr.loadAt 57 (.pointer (some p4))).run Try.prog W_ = .ok (.agg #[sS ((List.getD (d.fields) i fz).name), sS ((List.getD (d.fields) i fz).text)]) W_, (Instr.loadAt 22 (.pointer (some (⟨bb, 1, none⟩)))).run Try.prog W_ = .ok (fu) W_, (Instr.indexAt 22 (fu) (iN i)).run Try.prog W_ = .ok (.pointer (some p7)) W_, (Instr.loadAt 57 (.pointer (some p7))).run Try.prog W_ = .ok (.agg #[sS ((List.getD (c.fields) i fz).name), sS ((List.getD (c.fields) i fz).text)]) W_, Try.prog.eqGuardType Try.prog.depth 57 = false ∧ (binOp .neq 57 (.agg #[sS ((List.getD (d.fields) i fz).name), sS ((List.getD (d.fields) i fz).text)]) (.agg #[sS ((List.getD (c.fields) i fz).name), sS ((List.getD (c.fields) i fz).text)])).run Try.prog W_ = .ok (.bool (!(decide (List.getD (d.fields) i fz = List.getD (c.fields) i fz)))) W_]) [(.pointer (some (⟨ba, 1, none⟩)), .pointer (some (⟨ba, 1, none⟩))), (iN i, iN i), (.pointer (some (⟨bb, 1, none⟩)), .pointer (some (⟨bb, 1, none⟩))), (iN i, iN i)] [(2, pq ba), (3, pq bb), (5, iN i), (47, .bool (!(decide (List.getD (d.fields) i fz = List.getD (c.fields) i fz))))] (by kernel_rfl) (by kernel_rfl) ([(47, .bool (!(decide (List.getD (d.fields) i fz = List.getD (c.fields) i fz)))), (46, .agg #[sS ((List.getD (c.fields) i fz).name), sS ((List.getD (c.fields) i fz).text)]), (45, .pointer (some p7)), (44, iN i), (43, fu), (42, .pointer (some (⟨bb, 1, none⟩))), (41, .agg #[sS ((List.getD (d.fields) i fz).name), sS ((List.getD (d.fields) i fz).text)]), (40, .pointer (some p4)), (39, iN i), (38, fv), (37, .pointer (some (⟨ba, 1, none⟩)))] ++ [(2, pq ba), (3, pq bb), (5, iN i)]) (fun W_ => by kernel_rfl) (by kernel_rfl) (.cons rfl (.cons rfl (.cons rfl (.cons rfl Obs.nil)))) (Kept.drewN _ _ 1) (fun W_ hW_ => (.cons (c_load pE22 ((hM.rd 0 rfl).kept0 hW_) (cel_obj ba 1) rfl) (.cons (hq6 _ _) (.cons (r_loads (f := fdC) (l := (d.fields)) aE57 ((hf.kept0 hM.kept).kept0 hW_) fdC_len hp5 (by first | omega | (dsimp only; omega)) fz) (.cons (c_load pE22 ((hM.rd 1 rfl).kept0 hW_) (cel_obj bb 1) rfl) (.cons (hq9 _ _) (.cons (r_loads (f := fdC) (l := (c.fields)) aE57 ((hf2.kept0 hM.kept).kept0 hW_) fdC_len hp8 (by first | omega | (dsimp only; omega)) fz) (.cons (f_agneq eT57 (xs := [sS ((List.getD (d.fields) i fz).name), sS ((List.getD (d.fields) i fz).text)]) (ys := [sS ((List.getD (c.fields) i fz).name), sS ((List.getD (c.fields) i fz).text)]) (r := (((sb ((List.getD (d.fields) i fz).name)).toList == (sb ((List.getD (c.fields) i fz).name)).toList) && (((sb ((List.getD (d.fields) i fz).text)).toList == (sb ((List.getD (c.fields) i fz).text)).toList) && true))) (by kernel_rfl) ((congrArg Bool.not (fd_beq _ _)))) Obs.nil)))))))) (fun w10 hw11 => ?_)
   have hM12 := hM.ext hw11
   refine GoS.cond (!(decide (List.getD (d.fields) i fz = List.getD (c.fields) i fz))) [iC Try.f12 [1,1,0,1,0,0,1,0,0,1,0], .inBlock 1, iC Try.f12 uN4, iL Try.f12 uN1, .inBlock 0, iC Try.f12 [1,1,1]] [iC Try.f12 [1,1,0,1,0,0,1,0,0,1,1], .inBlock 1, iC Try.f12 uN4, iL Try.f12 uN1, .inBlock 0, iC Try.f12 [1,1,1]] (by kernel_rfl) (fun h13 => ?_) (fun h13 => ?_)
   ·
    have h13p : ¬ (List.getD (d.fields) i fz = List.getD (c.fields) i fz) := of_decide_eq_false (p_nf h13)
    have hM14 := hM12.sub (sD (sD sR))
    refine GoS.run [4] [.n, .n, .n, .n] _ [iC Try.f12 [1,1,0,1,0,0,1,0,0,1,0,1], .inBlock 1, iC Try.f12 uN4, iL Try.f12 uN1, .inBlock 0, iC Try.f12 [1,1,1]] [(4, .bool false)] w10 (by kernel_rfl) .nil ?_
    refine GoS.ret (fn := Try.f12) (v := (.bool false)) Try.func12 (by kernel_rfl) ?_
    rw [hR]
    exact ⟨ret_bool (sd_fields (ne_getD fz i h13p)).symm, hM14.sub sN⟩
   ·
    have h13p : List.getD (d.fields) i fz = List.getD (c.fields) i fz := of_decide_eq_true (p_nt h13)
    refine GoS.run [2, 3, 5] [.n] _ [.inBlock 1, iC Try.f12 uN4, iL Try.f12 uN1, .inBlock 0, iC Try.f12 [1,1,1]] [(2, pq ba), (3, pq bb), (5, iN i)] w10 (by kernel_rfl) .nil ?_
    have o15 : (binOp .add 3 (iN i) (.int .i64 1)).run Try.prog w10 = .ok (iN (i + 1)) w10 := f_add (by rw [show ((i : Nat) : Int) + 1 = (((i + 1) : Nat) : Int) by omega]; exact IntWalk.i64_in _ (by omega))
    refine GoS.run [2, 3, 5] [.n, .n, .n, .h (iN (i + 1)), .n, .n, .n] _ [iC Try.f12 uN1, iL Try.f12 uN1, .inBlock 0, iC Try.f12 [1,1,1]] [(2, pq ba), (3, pq bb), (5, iN (i + 1))] w10 (by kernel_rfl) (.cons o15 .nil) ?_
    exact ih (i + 1) _ (by omega) (fun j hj => by rcases Nat.lt_succ_iff_lt_or_eq.1 hj with g | g; exact hw j g; subst g; exact h13p) (hM12.sub (sK (sK sN))) (by omega)
  ·
   have h3p : ¬ (((i : Nat) : Int) < (((List.length (d.fields)) : Nat) : Int)) := of_decide_eq_false h3
   refine GoS.run [2, 3, 6] [.n, .n, .n, .n, .n, .n, .n, .n] _ [iC Try.f12 uN0, iL Try.f12 uN0, .inBlock 2, iC Try.f12 uN2] [(2, pq ba), (3, pq bb), (6, .int .i64 0)] w (by kernel_rfl) .nil ?_
   exact sdoc_L2 d c fv nv fu nu hf hn hf2 hn2 hk (ext_getD fz hl1 (fun j hj => hw j (by omega))) hl2 ba bb R hR (d.nums.length + 1) 0 w (Nat.zero_le _) (fun j hj => absurd hj (Nat.not_lt_zero _)) (hM.sub (sK (sK sN))) (by omega)

set_option maxHeartbeats 400000 in
theorem sdoc_c {w : World} (d c : Dc) (fv nv fu nu : Value) (hf : Rd w 2 fv d.fields.length (recs fdC d.fields)) (hn : Rd w 2 nv d.nums.length (recs nmC d.nums)) (hf2 : Rd w 2 fu c.fields.length (recs fdC c.fields)) (hn2 : Rd w 2 nu c.nums.length (recs nmC c.nums)) :
  Calls Try.prog 12 #[.agg #[sS (d.key), fv, nv], .agg #[sS (c.key), fu, nu]] w (fun e w' => e = .returned (.bool (decide (d = c))) ∧ Mem [] w w' []) := by
 have hq1 := rd_len hf
 have hq2 := rd_len hn
 simp only [maxLen] at hq1 hq2
 obtain ⟨R, hR⟩ : ∃ R : Ending → World → Prop, R = (fun e w' => e = .returned (.bool (decide (d = c))) ∧ Mem [] w w' []) := ⟨_, rfl⟩
 rw [← hR]
 refine GoS.enter (n := 66) Try.func12 (by kernel_rfl) rfl [(0, .agg #[sS (d.key), fv, nv]), (1, .agg #[sS (c.key), fu, nu])] (by kernel_rfl) (by kernel_rfl) ?_
 have hM0 := Mem.start w
 obtain ⟨b1, w2, hr3, hM4⟩ := m_box (T := 25) (k := 3) (u := .agg #[sS (d.key), fv, nv]) rfl rfl hM0
 have hM5 : Mem [] w w2 [⟨25, 3, (obj b1), 1, [sS (d.key), fv, nv]⟩] := hM4
 have o11 : (Instr.box 25 (.agg #[sS (d.key), fv, nv])).run Try.prog w = .ok (pq b1) w2 := hr3
 obtain ⟨b6, w7, hr8, hM9⟩ := m_box (T := 25) (k := 3) (u := .agg #[sS (c.key), fu, nu]) rfl rfl hM5
 have hM10 : Mem [] w w7 [⟨25, 3, (obj b6), 1, [sS (c.key), fu, nu]⟩, ⟨25, 3, (obj b1), 1, [sS (d.key), fv, nv]⟩] := hM9
 have o12 : (Instr.box 25 (.agg #[sS (c.key), fu, nu])).run Try.prog w2 = .ok (pq b6) w7 := hr8
 have o13 : (Instr.loadAt 9 (pq b1)).run Try.prog w7 = .ok (sS (d.key)) w7 := c_load pE9 (hM10.rd 1 rfl) (cel_obj b1 0) rfl
 have o14 : (Instr.loadAt 9 (pq b6)).run Try.prog w7 = .ok (sS (c.key)) w7 := c_load pE9 (hM10.rd 0 rfl) (cel_obj b6 0) rfl
 have o15 : (binOp .neq 9 (sS (d.key)) (sS (c.key))).run Try.prog w7 = .ok (.bool (!(decide (d.key = c.key)))) w7 := f_strneq
 refine GoS.run [2, 3, 12] [.n, .n, .u (pq b1) (w2), .u (pq b6) (w7), .n, .n, .n, .n, .n, .n, .h (sS (d.key)), .n, .h (sS (c.key)), .h (.bool (!(decide (d.key = c.key)))), .n] _ [.inRegion (cops (csub (cd Try.f12) [1,0,0])) [6,7,8,9,10,11,12,13,14,15,16,17,18,19,20,21,22], iC Try.f12 [1,0,1], iC Try.f12 [1,1]] [(2, pq b1), (3, pq b6), (12, .bool (!(decide (d.key = c.key))))] w7 (by kernel_rfl) (.cons o11 (.cons o12 (.cons o13 (.cons o14 (.cons o15 .nil))))) ?_
 refine GoS.fork 12 (!(decide (d.key = c.key))) (by kernel_rfl) (fun h16 => ?_) (fun h16 => ?_)
 ·
  have h16p : ¬ (d.key = c.key) := of_decide_eq_false (p_nf h16)
  refine GoS.run [2, 3, 29] [.n, .n, .n, .n, .n, .n, .n, .n, .n, .n, .n, .n, .n, .n, .n, .n, .n] _ [.inRegion (cops (csub (cd Try.f12) [1,0,0])) [], iC Try.f12 [1,0,1], iC Try.f12 [1,1]] [(2, pq b1), (3, pq b6), (29, .bool true)] w7 (by kernel_rfl) .nil ?_
  have hM26 := hM10.sub (sD (sD sR))
  refine GoS.run [4] [.n, .n, .n, .n, .n, .n] _ [iC Try.f12 [1,0,1,0,1], iC Try.f12 [1,1]] [(4, .bool false)] w7 (by kernel_rfl) .nil ?_
  refine GoS.ret (fn := Try.f12) (v := (.bool false)) Try.func12 (by kernel_rfl) ?_
  rw [hR]
  exact ⟨ret_bool (sd_key h16p).symm, hM26.sub sN⟩
 ·
  have h16p : d.key = c.key := of_decide_eq_true (p_nt h16)
  have o17 : (Instr.loadAt 22 (.pointer (some (⟨b1, 1, none⟩)))).run Try.prog w7 = .ok (fv) w7 := c_load pE22 (hM10.rd 1 rfl) (cel_obj b1 1) rfl
  have o18 : (Builtin.len_ #[22] 3 #[fv]).run Try.prog w7 = .ok (iN (List.length (d.fields))) w7 := f_slen sT22 (hf.kept0 hM10.kept) 3 _
  have o19 : (Instr.loadAt 22 (.pointer (some (⟨b6, 1, none⟩)))).run Try.prog w7 = .ok (fu) w7 := c_load pE22 (hM10.rd 0 rfl) (cel_obj b6 1) rfl
  have o20 : (Builtin.len_ #[22] 3 #[fu]).run Try.prog w7 = .ok (iN (List.length (c.fields))) w7 := f_slen sT22 (hf2.kept0 hM10.kept) 3 _
  refine GoS.run [2, 3, 21] [.n, .h (fv), .h (iN (List.length (d.fields))), .n, .h (fu), .h (iN (List.length (c.fields))), .n, .n, .n] _ [.inRegion (cops (csub (cd Try.f12) [1,0,0])) [15,16,17,18,19,20,21,22], iC Try.f12 [1,0,1], iC Try.f12 [1,1]] [(2, pq b1), (3, pq b6), (21, .bool ((((List.length (d.fields)) : Nat) : Int) != (((List.length (c.fields)) : Nat) : Int)))] w7 (by kernel_rfl) (.cons o17 (.cons o18 (.cons o19 (.cons o20 .nil)))) ?_
  refine GoS.fork 21 ((((List.length (d.fields)) : Nat) : Int) != (((List.length (c.fields)) : Nat) : Int)) (by kernel_rfl) (fun h21 => ?_) (fun h21 => ?_)
  ·
   have h21p : ¬ ((((List.length (d.fields)) : Nat) : Int) = (((List.length (c.fields)) : Nat) : Int)) := bne_iff_ne.1 h21
   refine GoS.run [2, 3, 29] [.n, .n, .n, .n, .n, .n, .n, .n] _ [.inRegion (cops (csub (cd Try.f12) [1,0,0])) [], iC Try.f12 [1,0,1], iC Try.f12 [1,1]] [(2, pq b1), (3, pq b6), (29, .bool true)] w7 (by kernel_rfl) .nil ?_
   have hM27 := hM10.sub (sD (sD sR))
   refine GoS.run [4] [.n, .n, .n, .n, .n, .n] _ [iC Try.f12 [1,0,1,0,1], iC Try.f12 [1,1]] [(4, .bool false)] w7 (by kernel_rfl) .nil ?_
   refine GoS.ret (fn := Try.f12) (v := (.bool false)) Try.func12 (by kernel_rfl) ?_
   rw [hR]
   exact ⟨ret_bool (sd_fields (len_ne (by omega))).symm, hM27.sub sN⟩
  ·
   have h21p : (((List.length (d.fields)) : Nat) : Int) = (((List.length (c.fields)) : Nat) : Int) := p_eq h21
   have o22 : (Instr.loadAt 23 (.pointer (some (⟨b1, 2, none⟩)))).run Try.prog w7 = .ok (nv) w7 := c_load pE23 (hM10.rd 1 rfl) (cel_obj b1 2) rfl
   have o23 : (Builtin.len_ #[23] 3 #[nv]).run Try.prog w7 = .ok (iN (List.length (d.nums))) w7 := f_slen sT23 (hn.kept0 hM10.kept) 3 _
   have o24 : (Instr.loadAt 23 (.pointer (some (⟨b6, 2, none⟩)))).run Try.prog w7 = .ok (nu) w7 := c_load pE23 (hM10.rd 0 rfl) (cel_obj b6 2) rfl
   have o25 : (Builtin.len_ #[23] 3 #[nu]).run Try.prog w7 = .ok (iN (List.length (c.nums))) w7 := f_slen sT23 (hn2.kept0 hM10.kept) 3 _
   refine GoS.run [2, 3, 29] [.n, .h (nv), .h (iN (List.length (d.nums))), .n, .h (nu), .h (iN (List.length (c.nums))), .n, .n] _ [.inRegion (cops (csub (cd Try.f12) [1,0,0])) [], iC Try.f12 [1,0,1], iC Try.f12 [1,1]] [(2, pq b1), (3, pq b6), (29, .bool ((((List.length (d.nums)) : Nat) : Int) != (((List.length (c.nums)) : Nat) : Int)))] w7 (by kernel_rfl) (.cons o22 (.cons o23 (.cons o24 (.cons o25 .nil)))) ?_
   refine GoS.run [2, 3, 29] [.n] _ [iC Try.f12 [1,0,1], iC Try.f12 [1,1]] [(2, pq b1), (3, pq b6), (29, .bool ((((List.length (d.nums)) : Nat) : Int) != (((List.length (c.nums)) : Nat) : Int)))] w7 (by kernel_rfl) .nil ?_
   refine GoS.cond ((((List.length (d.nums)) : Nat) : Int) != (((List.length (c.nums)) : Nat) : Int)) [iC Try.f12 [1,0,1,0], iC Try.f12 [1,1]] [iC Try.f12 [1,0,1,1], iC Try.f12 [1,1]] (by kernel_rfl) (fun h28 => ?_) (fun h28 => ?_)
   ·
    have h28p : ¬ ((((List.length (d.nums)) : Nat) : Int) = (((List.length (c.nums)) : Nat) : Int)) := bne_iff_ne.1 h28
    have hM29 := hM10.sub (sD (sD sR))
    refine GoS.run [4] [.n, .n, .n, .n] _ [iC Try.f12 [1,0,1,0,1], iC Try.f12 [1,1]] [(4, .bool false)] w7 (by kernel_rfl) .nil ?_
    refine GoS.ret (fn := Try.f12) (v := (.bool false)) Try.func12 (by kernel_rfl) ?_
    rw [hR]
    exact ⟨ret_bool (sd_nums (len_ne (by omega))).symm, hM29.sub sN⟩
   ·
    have h28p : (((List.length (d.nums)) : Nat) : Int) = (((List.length (c.nums)) : Nat) : Int) := p_eq h28
    refine GoS.run [2, 3] [.n] _ [iC Try.f12 [1,1]] [(2, pq b1), (3, pq b6)] w7 (by kernel_rfl) .nil ?_
    refine GoS.run [2, 3, 5] [.n, .n, .n, .n, .n, .n, .n] _ [iC Try.f12 uN1, iL Try.f12 uN1, .inBlock 0, iC Try.f12 [1,1,1]] [(2, pq b1), (3, pq b6), (5, .int .i64 0)] w7 (by kernel_rfl) .nil ?_
    have hM30 : Mem [] w w7 [⟨25, 3, (obj b1), 1, [sS (d.key), fv, nv]⟩, ⟨25, 3, (obj b6), 1, [sS (c.key), fu, nu]⟩] := hM10.perm (pS pR)
    exact sdoc_L1 d c fv nv fu nu hf hn hf2 hn2 h16p (by omega) (by omega) b1 b6 R hR (d.fields.length + 1) 0 w7 (Nat.zero_le _) (fun j hj => absurd hj (Nat.not_lt_zero _)) (hM30.sub (sK (sK sN))) (by omega)

theorem sdoc_yes {w : World} (d : Dc) (fv nv fu nu : Value) (hf : Rd w 2 fv d.fields.length (recs fdC d.fields)) (hn : Rd w 2 nv d.nums.length (recs nmC d.nums)) (hf2 : Rd w 2 fu d.fields.length (recs fdC d.fields)) (hn2 : Rd w 2 nu d.nums.length (recs nmC d.nums)) :
  Calls Try.prog 12 #[.agg #[sS (d.key), fv, nv], .agg #[sS (d.key), fu, nu]] w (fun e w' => e = .returned (.bool true) ∧ Mem [] w w' []) := by
 have z := sdoc_c d d fv nv fu nu hf hn hf2 hn2
 rwa [decide_eq_true rfl] at z


end Go.Proofs.Ytcdcehjilneifaa
