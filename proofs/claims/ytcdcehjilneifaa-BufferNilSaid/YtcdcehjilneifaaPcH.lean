/-
  The walk of slices.Delete.
-/
import Derived.Test.YtcdcehjilneifaaPcG
namespace Go.Proofs.Ytcdcehjilneifaa
open Go Go.Gw Go.UtfP Go.TokP Go.PcP Go.RowKit
set_option linter.unusedVariables false
set_option linter.unusedSimpArgs false
set_option maxRecDepth 20000



set_option maxHeartbeats 400000 in
theorem del_c {S : List Nat} {w0 w : World} (g c i : Nat) (Z : List PZ) (T : List Row) (hi : i < Z.length) (hone : ∀ u ∈ recs pzC Z, u.oneCell' = true) (hM : Mem S w0 w (⟨29, 3, (.slice (some ⟨g, 0, none⟩) (List.length Z) c), (List.length Z), (recs pzC Z)⟩ :: T)) :
  Calls Try.prog 40 #[(.slice (some ⟨g, 0, none⟩) (List.length Z) c), .int .i64 ((i : Nat) : Int), .int .i64 (((i + 1) : Nat) : Int)] w (fun e w' => e = .returned (.slice (some ⟨g, 0, none⟩) (List.length (Z.eraseIdx i)) c) ∧ Mem S w0 w' (⟨29, 3, (.slice (some ⟨g, 0, none⟩) (List.length (Z.eraseIdx i)) c), List.length (Z.eraseIdx i), recs pzC (Z.eraseIdx i)⟩ :: T)) := by
 have hrd : Rd w 3 (.slice (some ⟨g, 0, none⟩) (List.length Z) c) (List.length Z) (recs pzC Z) := hM.rd 0 rfl
 have hnc : Z.length ≤ c := by rcases (hM.get 0 rfl).2 with ⟨e, _⟩ | ⟨g', cap, cur, e, _, _, hn, _⟩; cases e; cases e; exact hn
 have hcm := rd_len hrd
 simp only [maxLen] at hcm
 have hcx : c ≤ maxLen := by rcases (hM.get 0 rfl).2 with ⟨e, _⟩ | ⟨g', cap, cur, e, _, _, _, hn, _⟩; cases e; cases e; exact hn
 simp only [maxLen] at hcx
 obtain ⟨R, hR⟩ : ∃ R : Ending → World → Prop, R = (fun e w' => e = .returned (.slice (some ⟨g, 0, none⟩) (List.length (Z.eraseIdx i)) c) ∧ Mem S w0 w' (⟨29, 3, (.slice (some ⟨g, 0, none⟩) (List.length (Z.eraseIdx i)) c), List.length (Z.eraseIdx i), recs pzC (Z.eraseIdx i)⟩ :: T)) := ⟨_, rfl⟩
 rw [← hR]
 refine GoS.enter (n := 33) Try.func40 (by kernel_rfl) rfl [(0, (.slice (some ⟨g, 0, none⟩) (List.length Z) c)), (1, .int .i64 ((i : Nat) : Int)), (2, .int .i64 (((i + 1) : Nat) : Int))] (by kernel_rfl) (by kernel_rfl) ?_
 have o1 : (Builtin.len_ #[43] 3 #[(.slice (some ⟨g, 0, none⟩) (List.length Z) c)]).run Try.prog w = .ok (.int .i64 (((List.length Z) : Nat) : Int)) w := f_slen sT43 (hM.rd 0 rfl) 3 _
 have o2 : (Instr.sliceAt 43 ((.slice (some ⟨g, 0, none⟩) (List.length Z) c)) (some (.int .i64 ((i : Nat) : Int))) (some (.int .i64 (((i + 1) : Nat) : Int))) (some (.int .i64 (((List.length Z) : Nat) : Int)))).run Try.prog w = .ok (.slice (if (List.length Z) = i then some ⟨g, 0, none⟩ else some ((⟨g, 0, none⟩ : Addr).add (i * 3))) (i + 1 - i) ((List.length Z) - i)) w := f_three sT43 g i (i + 1) rfl rfl (Nat.le_succ _) (by omega) (by omega) _
 refine GoS.run [0, 1, 2, 16] [.n, .n, .n, .n, .n, .n, .n, .n, .n, .n, .h (.int .i64 (((List.length Z) : Nat) : Int)), .h ((.slice (if (List.length Z) = i then some ⟨g, 0, none⟩ else some ((⟨g, 0, none⟩ : Addr).add (i * 3))) (i + 1 - i) ((List.length Z) - i))), .n, .n, .n, .n, .n, .n, .n, .n] _ [.code (csub (cd Try.f40) [1,1,0,1]), .code (csub (cd Try.f40) [1,1,1])] [(0, (.slice (some ⟨g, 0, none⟩) (List.length Z) c)), (1, .int .i64 ((i : Nat) : Int)), (2, .int .i64 (((i + 1) : Nat) : Int)), (16, .bool (((i : Nat) : Int) == (((i + 1) : Nat) : Int)))] w (by kernel_rfl) (.cons o1 (.cons o2 .nil)) ?_
 refine GoS.cond (((i : Nat) : Int) == (((i + 1) : Nat) : Int)) [.code (csub (cd Try.f40) [1,1,0,1,0]), .code (csub (cd Try.f40) [1,1,1])] [.code (csub (cd Try.f40) [1,1,0,1,1]), .code (csub (cd Try.f40) [1,1,1])] (by kernel_rfl) (fun h3 => ?_) (fun h3 => ?_)
 ·
  have hz := h3; simp at hz; omega
 ·
  have h3p : ¬ (((i : Nat) : Int) = (((i + 1) : Nat) : Int)) := p_ne h3
  refine GoS.run [0, 1, 2] [.n] _ [.code (csub (cd Try.f40) [1,1,1])] [(0, (.slice (some ⟨g, 0, none⟩) (List.length Z) c)), (1, .int .i64 ((i : Nat) : Int)), (2, .int .i64 (((i + 1) : Nat) : Int))] w (by kernel_rfl) .nil ?_
  have o4 : (Builtin.len_ #[43] 3 #[(.slice (some ⟨g, 0, none⟩) (List.length Z) c)]).run Try.prog w = .ok (.int .i64 (((List.length Z) : Nat) : Int)) w := f_slen sT43 (hM.rd 0 rfl) 3 _
  refine GoS.run [0, 1, 2, 7] [.n, .n, .n, .h (.int .i64 (((List.length Z) : Nat) : Int)), .n, .n, .n] _ [.code (csub (cd Try.f40) [1,1,1,1,0]), .code (csub (cd Try.f40) [1,1,1,1,1])] [(0, (.slice (some ⟨g, 0, none⟩) (List.length Z) c)), (1, .int .i64 ((i : Nat) : Int)), (2, .int .i64 (((i + 1) : Nat) : Int)), (7, .int .i64 (((List.length Z) : Nat) : Int))] w (by kernel_rfl) (.cons o4 .nil) ?_
  obtain ⟨w5, hw6⟩ : ∃ w_, (w).drewN 1 = w_ := ⟨_, rfl⟩
  refine GoS.held (fun W_ => Mem S w0 W_ (T)) [] 5 (by kernel_rfl) (by kernel_rfl) 8 (by kernel_rfl) ?_
  rw [hw6]
  have hM7 : Mem S w0 w5 (⟨29, 3, (.slice (some ⟨g, 0, none⟩) (List.length Z) c), (List.length Z), (recs pzC Z)⟩ :: T) := hw6 ▸ hM.ext (Kept.drewN _ _ 1)
  have hS8 := hM7.sub (sD sR)
  refine GoH.takeV 0 ((.slice (some ⟨g, 0, none⟩) (List.length Z) c)) ((.slice (some ⟨g, 0, none⟩) (List.length Z) c)) (some 20) (fun W_ => by kernel_rfl) rfl hS8 ?_
  refine GoH.takeV 1 (.int .i64 ((i : Nat) : Int)) (.int .i64 ((i : Nat) : Int)) (some 21) (fun W_ => by kernel_rfl) rfl hS8 ?_
  refine GoH.takeF 2 ((.slice (some ⟨g, 0, none⟩) i c)) (fun W_ => (Instr.sliceAt 43 ((.slice (some ⟨g, 0, none⟩) (List.length Z) c)) none (some (.int .i64 ((i : Nat) : Int))) none).run Try.prog W_ = .ok (.slice (some ⟨g, 0, none⟩) i c) W_) (some 22) (fun W_ => by kernel_rfl) (fun W_ hW_ => f_cut0 sT43 hrd i rfl (by omega) _ _) hS8 ?_
  refine GoH.takeV 3 ((.slice (some ⟨g, 0, none⟩) (List.length Z) c)) ((.slice (some ⟨g, 0, none⟩) (List.length Z) c)) (some 23) (fun W_ => by kernel_rfl) rfl hS8 ?_
  refine GoH.takeV 4 (.int .i64 (((i + 1) : Nat) : Int)) (.int .i64 (((i + 1) : Nat) : Int)) (some 24) (fun W_ => by kernel_rfl) rfl hS8 ?_
  have hx12 : Rd w5 3 (.slice (some ⟨g, 0, none⟩) (List.length Z) c) (List.length Z) (recs pzC Z) := hM7.rd 0 rfl
  obtain ⟨v9, hr10, hv11, _⟩ := f_from sT43 hx12 (i + 1) (x := (((i + 1) : Nat) : Int)) rfl (by omega)
  have hS13 := hM7.sub (sD sR)
  refine GoH.stepF 5 (v9) (w5) ((Instr.sliceAt 43 ((.slice (some ⟨g, 0, none⟩) (List.length Z) c)) (some (.int .i64 (((i + 1) : Nat) : Int))) none none).run Try.prog w5 = .ok v9 w5) (some 25) (by kernel_rfl) (hr10 _ _) (.inr hS13) ?_
  obtain ⟨w14, hr15, hM16⟩ := m_appin (n := (List.length Z)) (m := (List.length Z - (i + 1))) sT43 hM7 0 rfl i hv11 (fun u hu => hone u (List.mem_of_mem_drop hu)) (by omega) 43
  have hS17 := hM16.sub (sD sR)
  refine GoH.stepF 6 ((.slice (some ⟨g, 0, none⟩) (i + ((List.length Z) - (i + 1))) c)) (w14) ((Builtin.append_ #[43, 43] 43 #[(.slice (some ⟨g, 0, none⟩) i c), v9]).run Try.prog w5 = .ok (.slice (some ⟨g, 0, none⟩) (i + ((List.length Z) - (i + 1))) c) w14) (some 26) (by kernel_rfl) (hr15) (.inr hS17) ?_
  refine GoH.takeV 7 ((.slice (some ⟨g, 0, none⟩) (i + ((List.length Z) - (i + 1))) c)) ((.slice (some ⟨g, 0, none⟩) (i + ((List.length Z) - (i + 1))) c)) (some 0) (fun W_ => by kernel_rfl) rfl hS17 ?_
  refine GoH.done [0, 7] [(0, (.slice (some ⟨g, 0, none⟩) (i + ((List.length Z) - (i + 1))) c)), (7, .int .i64 (((List.length Z) : Nat) : Int))] (by kernel_rfl) (by kernel_rfl) ?_
  have o21 : (Builtin.len_ #[43] 3 #[(.slice (some ⟨g, 0, none⟩) (i + ((List.length Z) - (i + 1))) c)]).run Try.prog w14 = .ok (.int .i64 (((i + ((List.length Z) - (i + 1))) : Nat) : Int)) w14 := f_slen sT43 (hM16.rd 0 rfl) 3 _
  have o22 : (Instr.sliceAt 43 ((.slice (some ⟨g, 0, none⟩) (i + ((List.length Z) - (i + 1))) c)) (some (.int .i64 (((i + ((List.length Z) - (i + 1))) : Nat) : Int))) (some (.int .i64 (((List.length Z) : Nat) : Int))) none).run Try.prog w14 = .ok (.slice (some ⟨g, (i + ((List.length Z) - (i + 1))) * 3, none⟩) ((List.length Z) - (i + ((List.length Z) - (i + 1)))) (c - (i + ((List.length Z) - (i + 1))))) w14 := f_behind sT43 g (i + ((List.length Z) - (i + 1))) (List.length Z) rfl rfl (by omega) hnc _
  obtain ⟨w18, hr19, hM20⟩ := m_clear (m := (i + ((List.length Z) - (i + 1)))) sT43 (by intro u hu; simp [Value.cells] at hu; rcases hu with rfl | rfl | rfl <;> rfl) hM16 0 rfl ((List.length Z) - (i + ((List.length Z) - (i + 1)))) (c - (i + ((List.length Z) - (i + 1)))) (by omega) (by omega) 0
  refine GoS.run [6] [.n, .n, .n, .n, .h (.int .i64 (((i + ((List.length Z) - (i + 1))) : Nat) : Int)), .n, .h ((.slice (some ⟨g, (i + ((List.length Z) - (i + 1))) * 3, none⟩) ((List.length Z) - (i + ((List.length Z) - (i + 1)))) (c - (i + ((List.length Z) - (i + 1)))))), .u (.tuple #[]) (w18), .n, .n, .n, .n, .n, .n] _ [.code (csub (cd Try.f40) [1,1,1,1,1,1,1])] [(6, (.slice (some ⟨g, 0, none⟩) (i + ((List.length Z) - (i + 1))) c))] w18 (by kernel_rfl) (.cons o21 (.cons o22 (.cons hr19 .nil))) ?_
  refine GoS.ret (fn := Try.f40) (v := (.slice (some ⟨g, 0, none⟩) (i + ((List.length Z) - (i + 1))) c)) Try.func40 (by kernel_rfl) ?_
  rw [hR]
  have el : List.length (Z.eraseIdx i) = i + (List.length Z - (i + 1)) := by rw [List.length_eraseIdx_of_lt hi]; omega
  have ee : (recs pzC Z).take (i * 3) ++ (recs pzC Z).drop ((i + 1) * 3) = recs pzC (Z.eraseIdx i) := recs_erase pzC_len Z i
  rw [el, ← ee]
  exact ⟨rfl, hM20⟩

theorem del2_c {S : List Nat} {w0 w : World} (v : Value) (i : Nat) (x y : Int) (hx : x = (i : Int)) (hy : y = ((i + 1 : Nat) : Int)) (Z : List PZ) (T : List Row) (hi : i < Z.length) (hone : ∀ u ∈ recs pzC Z, u.oneCell' = true) (hM : Mem S w0 w (⟨29, 3, v, (List.length Z), (recs pzC Z)⟩ :: T)) :
  Calls Try.prog 40 #[v, .int .i64 x, .int .i64 y] w (fun e w' => ∃ v', e = .returned v' ∧ Mem S w0 w' (⟨29, 3, v', (List.length (Z.eraseIdx i)), (recs pzC (Z.eraseIdx i))⟩ :: T)) := by
 subst hx; subst hy
 rcases (hM.get 0 rfl).2 with ⟨e, e2⟩ | ⟨g', cap, cur, e, _⟩
 ·
  simp only at e2; omega
 ·
  simp only at e; subst e
  exact (del_c g' cap i Z T hi hone hM).mono fun e w' h => ⟨_, h⟩

set_option maxHeartbeats 400000 in
theorem drop_c {S : List Nat} {w0 w : World} (b : Nat) (key : List UInt8) (v : Value) (Z : List PZ) (T : List Row) (hone : OneZ Z) (hM : Mem S w0 w (⟨82, 1, (obj b), 1, [v]⟩ :: ⟨29, 3, v, (List.length Z), (recs pzC Z)⟩ :: T)) :
  Calls Try.prog 15 #[pq b, .string (sb key)] w (fun e w' => ∃ v', e = .returned (.bool (hasK (List.map PZ.pc Z) key)) ∧ Mem S w0 w' (⟨82, 1, (obj b), 1, [v']⟩ :: ⟨29, 3, v', (List.length (dropZ key Z)), (recs pzC (dropZ key Z))⟩ :: T)) := by
 have hln := rd_len (hM.rd 1 rfl)
 simp only [maxLen] at hln
 obtain ⟨R, hR⟩ : ∃ R : Ending → World → Prop, R = (fun e w' => ∃ v', e = .returned (.bool (hasK (List.map PZ.pc Z) key)) ∧ Mem S w0 w' (⟨82, 1, (obj b), 1, [v']⟩ :: ⟨29, 3, v', (List.length (dropZ key Z)), (recs pzC (dropZ key Z))⟩ :: T)) := ⟨_, rfl⟩
 rw [← hR]
 refine GoS.enter (n := 22) Try.func15 (by kernel_rfl) rfl [(0, pq b), (1, .string (sb key))] (by kernel_rfl) (by kernel_rfl) ?_
 refine GoS.run [0, 6, 7] [.n, .n, .n, .n, .n, .n, .n, .n] _ [.inRegion (cops (csub (cd Try.f15) [1,0])) [2,3], .code (csub (cd Try.f15) [1,1])] [(0, pq b), (6, pq b), (7, .string (sb key))] w (by kernel_rfl) .nil ?_
 refine GoS.call [0] 39 #[pq b, .string (sb key)] (some 8) [.inRegion (cops (csub (cd Try.f15) [1,0])) [3], .code (csub (cd Try.f15) [1,1])] [(0, pq b)] (by kernel_rfl) (place_c b key v Z (hM.rd 0 rfl) (hM.rd 1 rfl) hone) ?_
 rintro _ w1 ⟨rfl, m2⟩
 refine ⟨_, rfl, ?_⟩
 have hM3 : Mem S w0 w1 (⟨82, 1, (obj b), 1, [v]⟩ :: ⟨29, 3, v, (List.length Z), (recs pzC Z)⟩ :: T) := Mem.join (R := []) hM m2
 refine GoS.run [0, 5, 10] [.n, .n, .n, .n, .n, .n, .n, .n] _ [.code (csub (cd Try.f15) [1,1,0,1]), .code (csub (cd Try.f15) [1,1,1])] [(0, pq b), (5, .int .i64 (placeI (List.map PZ.pc Z) key)), (10, .bool (decide ((placeI (List.map PZ.pc Z) key) < 0)))] w1 (by kernel_rfl) .nil ?_
 refine GoS.cond (decide ((placeI (List.map PZ.pc Z) key) < 0)) [.code (csub (cd Try.f15) [1,1,0,1,0]), .code (csub (cd Try.f15) [1,1,1])] [.code (csub (cd Try.f15) [1,1,0,1,1]), .code (csub (cd Try.f15) [1,1,1])] (by kernel_rfl) (fun h4 => ?_) (fun h4 => ?_)
 ·
  have h4p : (placeI (List.map PZ.pc Z) key) < 0 := of_decide_eq_true h4
  have hkl : ¬ keyAt (List.map PZ.pc Z) key < (List.map PZ.pc Z).length := by
   unfold placeI at h4p; split at h4p <;> omega
  refine GoS.run [4] [.n, .n, .n, .n] _ [.code (csub (cd Try.f15) [1,1,0,1,0,1]), .code (csub (cd Try.f15) [1,1,1])] [(4, .bool false)] w1 (by kernel_rfl) .nil ?_
  refine GoS.ret (fn := Try.f15) (v := (.bool false)) Try.func15 (by kernel_rfl) ?_
  rw [hR]
  refine ⟨v, ret_bool (by unfold hasK; rw [decide_eq_false hkl]), ?_⟩
  rw [dropZ_no hkl]
  exact hM3
 ·
  have h4p : ¬ ((placeI (List.map PZ.pc Z) key) < 0) := of_decide_eq_false h4
  have hkl : keyAt (List.map PZ.pc Z) key < (List.map PZ.pc Z).length := by
   unfold placeI at h4p; split at h4p <;> omega
  have hpk : placeI (List.map PZ.pc Z) key = ((keyAt (List.map PZ.pc Z) key : Nat) : Int) := if_pos hkl
  have hkz : keyAt (List.map PZ.pc Z) key < Z.length := by simpa using hkl
  refine GoS.run [0, 5] [.n] _ [.code (csub (cd Try.f15) [1,1,1])] [(0, pq b), (5, .int .i64 (placeI (List.map PZ.pc Z) key))] w1 (by kernel_rfl) .nil ?_
  have o5 : (Instr.loadAt 43 (pq b)).run Try.prog w1 = .ok (v) w1 := c_load pE43 (hM3.rd 0 rfl) (cel_obj b 0) rfl
  have o6 : (binOp .add 3 (.int .i64 (placeI (List.map PZ.pc Z) key)) (.int .i64 1)).run Try.prog w1 = .ok (.int .i64 ((placeI (List.map PZ.pc Z) key) + 1)) w1 := f_add (IntWalk.i64_in _ (by omega))
  refine GoS.run [11, 15, 16, 18] [.n, .n, .n, .n, .n, .n, .h (v), .n, .n, .h (.int .i64 ((placeI (List.map PZ.pc Z) key) + 1))] _ [.inRegion (cops (csub (cd Try.f15) [1,1,1,0])) [8,9,10,11], .code (csub (cd Try.f15) [1,1,1,1])] [(11, pq b), (15, v), (16, .int .i64 (placeI (List.map PZ.pc Z) key)), (18, .int .i64 ((placeI (List.map PZ.pc Z) key) + 1))] w1 (by kernel_rfl) (.cons o5 (.cons o6 .nil)) ?_
  have hM7 : Mem S w0 w1 (⟨29, 3, v, (List.length Z), (recs pzC Z)⟩ :: ⟨82, 1, (obj b), 1, [v]⟩ :: T) := hM3.perm ((List.Perm.cons _ (List.Perm.refl _)).trans (List.Perm.swap _ _ _))
  refine GoS.call [11] 40 #[v, .int .i64 (placeI (List.map PZ.pc Z) key), .int .i64 ((placeI (List.map PZ.pc Z) key) + 1)] (some 19) [.inRegion (cops (csub (cd Try.f15) [1,1,1,0])) [9,10,11], .code (csub (cd Try.f15) [1,1,1,1])] [(11, pq b)] (by kernel_rfl) (del2_c v (keyAt (List.map PZ.pc Z) key) _ _ hpk (by rw [hpk]; rfl) Z (⟨82, 1, (obj b), 1, [v]⟩ :: T) (by simpa using hkl) hone.cells hM7) ?_
  rintro _ w8 ⟨v9, rfl, hM10⟩
  refine ⟨_, rfl, ?_⟩
  obtain ⟨w11, hr12, hM13⟩ := c_store (u := v9) (by kernel_rfl) hM10 1 rfl (cel_obj b 0) (by decide) (rd_one (hM10.rd 0 rfl)) (rd_cells (hM10.rd 0 rfl))
  have hM14 : Mem S w0 w11 (⟨29, 3, v9, (List.length (List.eraseIdx Z (keyAt (List.map PZ.pc Z) key))), (recs pzC (List.eraseIdx Z (keyAt (List.map PZ.pc Z) key)))⟩ :: ⟨82, 1, (obj b), 1, [v9]⟩ :: T) := hM13
  have o15 : (Instr.storeAt 43 (pq b) (v9)).run Try.prog w8 = .ok () w11 ∧ undef = undef := ⟨hr12, rfl⟩
  refine GoS.run [4] [.n, .n, .u (undef) (w11), .n, .n, .n, .n, .n] _ [.code (csub (cd Try.f15) [1,1,1,1,1])] [(4, .bool true)] w11 (by kernel_rfl) (.cons o15 .nil) ?_
  refine GoS.ret (fn := Try.f15) (v := (.bool true)) Try.func15 (by kernel_rfl) ?_
  rw [hR]
  have hM16 : Mem S w0 w11 (⟨82, 1, (obj b), 1, [v9]⟩ :: ⟨29, 3, v9, (List.length (List.eraseIdx Z (keyAt (List.map PZ.pc Z) key))), (recs pzC (List.eraseIdx Z (keyAt (List.map PZ.pc Z) key)))⟩ :: T) := hM14.perm ((List.Perm.cons _ (List.Perm.refl _)).trans (List.Perm.swap _ _ _))
  exact ⟨_, ret_bool (by unfold hasK; rw [decide_eq_true hkl]), hM16⟩


end Go.Proofs.Ytcdcehjilneifaa
