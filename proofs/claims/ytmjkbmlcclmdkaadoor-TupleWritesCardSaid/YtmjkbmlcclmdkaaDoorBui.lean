/-
  The walks of strings.Builder.
-/
import Derived.Test.YtmjkbmlcclmdkaaDoorNumF
import Derived.Test.YtmjkbmlcclmdkaaDoorBld
import Derived.Test.YtmjkbmlcclmdkaaDoorHeld
namespace Go.Proofs.YtmjkbmlcclmdkaaDoor
open Go Go.Gw Go.NumP Go.CrcP Go.SealP Go.RowKit
set_option linter.unusedVariables false
set_option linter.unusedSimpArgs false

theorem pE45 : Plain Tryd.prog 45 := ⟨.slice 5, by kernel_rfl, (fun _ h => by cases h), (fun _ _ h => by cases h)⟩
theorem pE55 : Plain Tryd.prog 55 := ⟨.pointer 57, by kernel_rfl, (fun _ h => by cases h), (fun _ _ h => by cases h)⟩

set_option maxHeartbeats 400000 in
theorem bcheck_n {S : List Nat} {w0 : World} (b : Nat) (v : Value) (l : List Int) (w : World) (hM : Mem S w0 w [⟨57, 2, (obj b), 1, [.pointer none, v]⟩, ⟨5, 1, v, (List.length l), (ivals .u8 l)⟩]) :
    Calls Tryd.prog 35 #[.pointer (some (⟨b, 0, none⟩))] w (fun e w' => e = .returned (.tuple #[]) ∧ Mem S w0 w' [⟨57, 2, (obj b), 1, [.pointer (some (⟨b, 0, none⟩)), v]⟩, ⟨5, 1, v, (List.length l), (ivals .u8 l)⟩]) := by
  obtain ⟨R, hR⟩ : ∃ R : Ending → World → Prop, R = (fun e w' => e = .returned (.tuple #[]) ∧ Mem S w0 w' [⟨57, 2, (obj b), 1, [.pointer (some (⟨b, 0, none⟩)), v]⟩, ⟨5, 1, v, (List.length l), (ivals .u8 l)⟩]) := ⟨_, rfl⟩
  rw [← hR]
  refine GoS.enter (n := 20) Tryd.func35 (by kernel_rfl) rfl [(0, .pointer (some (⟨b, 0, none⟩)))] (by kernel_rfl) (by kernel_rfl) ?_
  have o5 : (Instr.loadAt 55 (.pointer (some (⟨b, 0, none⟩)))).run Tryd.prog w = .ok (.pointer none) w := c_load pE55 (hM.rd 0 rfl) (cel_obj b 0) rfl
  have o6 : (convert 55 74 (.pointer (some (⟨b, 0, none⟩)))).run Tryd.prog w = .ok (.pointer (some (⟨b, 0, none⟩))) w := f_toU Tryd.underlying55 Tryd.underlying74 (j := _) rfl (by decide) (hM.get 0 rfl) (Nat.zero_lt_succ _)
  have o7 : (convert 74 55 (.pointer (some (⟨b, 0, none⟩)))).run Tryd.prog w = .ok (.pointer (some (⟨b, 0, none⟩))) w := f_fromU Tryd.underlying74 Tryd.underlying55 (j := _) rfl (hM.get 0 rfl) (by kernel_rfl)
  obtain ⟨w1, hr2, hM3⟩ := c_store (u := .pointer (some (⟨b, 0, none⟩))) (by kernel_rfl) hM 0 rfl (cel_obj b 0) (by decide) rfl rfl
  have hM4 : Mem S w0 w1 [⟨57, 2, (obj b), 1, [.pointer (some (⟨b, 0, none⟩)), v]⟩, ⟨5, 1, v, (List.length l), (ivals .u8 l)⟩] := hM3
  have o8 : (Instr.storeAt 55 (.pointer (some (⟨b, 0, none⟩))) (.pointer (some (⟨b, 0, none⟩)))).run Tryd.prog w = .ok () w1 ∧ undef = undef := ⟨hr2, rfl⟩
  refine GoS.run [] [.n, .n, .n, .n, .n, .h (.pointer none), .n, .n, .n, .n, .n, .n, .h (.pointer (some (⟨b, 0, none⟩))), .n, .h (.pointer (some (⟨b, 0, none⟩))), .n, .n, .u (undef) (w1), .n] _ [] [] w1 (by kernel_rfl) (.cons o5 (.cons o6 (.cons o7 (.cons o8 .nil)))) ?_
  refine GoS.fin (fn := Tryd.f35) (v := (.tuple #[])) Tryd.func35 (by kernel_rfl) ?_
  rw [hR]
  exact ⟨rfl, hM4⟩

set_option maxHeartbeats 400000 in
theorem bcheck_u {S : List Nat} {w0 : World} (b : Nat) (v : Value) (l : List Int) (w : World) (hM : Mem S w0 w [⟨57, 2, (obj b), 1, [.pointer (some (⟨b, 0, none⟩)), v]⟩, ⟨5, 1, v, (List.length l), (ivals .u8 l)⟩]) :
    Calls Tryd.prog 35 #[.pointer (some (⟨b, 0, none⟩))] w (fun e w' => e = .returned (.tuple #[]) ∧ Mem S w0 w' [⟨57, 2, (obj b), 1, [.pointer (some (⟨b, 0, none⟩)), v]⟩, ⟨5, 1, v, (List.length l), (ivals .u8 l)⟩]) := by
  obtain ⟨R, hR⟩ : ∃ R : Ending → World → Prop, R = (fun e w' => e = .returned (.tuple #[]) ∧ Mem S w0 w' [⟨57, 2, (obj b), 1, [.pointer (some (⟨b, 0, none⟩)), v]⟩, ⟨5, 1, v, (List.length l), (ivals .u8 l)⟩]) := ⟨_, rfl⟩
  rw [← hR]
  refine GoS.enter (n := 20) Tryd.func35 (by kernel_rfl) rfl [(0, .pointer (some (⟨b, 0, none⟩)))] (by kernel_rfl) (by kernel_rfl) ?_
  have o1 : (Instr.loadAt 55 (.pointer (some (⟨b, 0, none⟩)))).run Tryd.prog w = .ok (.pointer (some (⟨b, 0, none⟩))) w := c_load pE55 (hM.rd 0 rfl) (cel_obj b 0) rfl
  have o2 : (Instr.loadAt 55 (.pointer (some (⟨b, 0, none⟩)))).run Tryd.prog w = .ok (.pointer (some (⟨b, 0, none⟩))) w := c_load pE55 (hM.rd 0 rfl) (cel_obj b 0) rfl
  have o3 : (binOp .neq 55 (.pointer (some (⟨b, 0, none⟩))) (.pointer (some (⟨b, 0, none⟩)))).run Tryd.prog w = .ok (.bool false) w := Lib.run_neq_ptr_same w ⟨b, 0, none⟩ Tryd.underlying55 rfl
  refine GoS.run [] [.n, .n, .n, .n, .n, .h (.pointer (some (⟨b, 0, none⟩))), .n, .n, .n, .n, .n, .n, .n, .n, .h (.pointer (some (⟨b, 0, none⟩))), .n, .h (.bool false), .n, .n, .n] _ [] [] w (by kernel_rfl) (.cons o1 (.cons o2 (.cons o3 .nil))) ?_
  refine GoS.fin (fn := Tryd.f35) (v := (.tuple #[])) Tryd.func35 (by kernel_rfl) ?_
  rw [hR]
  exact ⟨rfl, hM⟩

set_option maxHeartbeats 400000 in
theorem bwb_n {S : List Nat} {w0 : World} (b : Nat) (v : Value) (l : List Int) (c : Int) (hl : l.length + 1 ≤ 140737488355328) (w : World) (hM : Mem S w0 w [⟨57, 2, (obj b), 1, [.pointer none, v]⟩, ⟨5, 1, v, (List.length l), (ivals .u8 l)⟩]) :
    Calls Tryd.prog 28 #[.pointer (some (⟨b, 0, none⟩)), .int .u8 c] w (fun e w' => e = .returned .nilIface ∧ ∃ v, Mem S w0 w' [⟨57, 2, (obj b), 1, [.pointer (some (⟨b, 0, none⟩)), v]⟩, ⟨5, 1, v, (List.length (l ++ ([c] : List Int))), (ivals .u8 (l ++ ([c] : List Int)))⟩]) := by
  obtain ⟨R, hR⟩ : ∃ R : Ending → World → Prop, R = (fun e w' => e = .returned .nilIface ∧ ∃ v, Mem S w0 w' [⟨57, 2, (obj b), 1, [.pointer (some (⟨b, 0, none⟩)), v]⟩, ⟨5, 1, v, (List.length (l ++ ([c] : List Int))), (ivals .u8 (l ++ ([c] : List Int)))⟩]) := ⟨_, rfl⟩
  rw [← hR]
  refine GoS.enter (n := 17) Tryd.func28 (by kernel_rfl) rfl [(0, .pointer (some (⟨b, 0, none⟩))), (1, .int .u8 c)] (by kernel_rfl) (by kernel_rfl) ?_
  refine GoS.run [0, 1, 5] [.n, .n, .n, .n, .n, .n, .n] _ [.inRegion (cops (csub (cd Tryd.f28) [1,0])) [1], .code (csub (cd Tryd.f28) [1,1])] [(0, .pointer (some (⟨b, 0, none⟩))), (1, .int .u8 c), (5, .pointer (some (⟨b, 0, none⟩)))] w (by kernel_rfl) .nil ?_
  have hM1 : Mem S w0 w [⟨5, 1, v, (List.length l), (ivals .u8 l)⟩, ⟨57, 2, (obj b), 1, [.pointer none, v]⟩] := hM.perm ((List.Perm.cons _ (List.Perm.refl _)).trans (List.Perm.swap _ _ _))
  have hM2 : Mem S w0 w [⟨57, 2, (obj b), 1, [.pointer none, v]⟩, ⟨5, 1, v, (List.length l), (ivals .u8 l)⟩] := hM1.perm ((List.Perm.cons _ (List.Perm.refl _)).trans (List.Perm.swap _ _ _))
  refine GoS.call [0, 1] 35 #[.pointer (some (⟨b, 0, none⟩))] (some 6) [.inRegion (cops (csub (cd Tryd.f28) [1,0])) [], .code (csub (cd Tryd.f28) [1,1])] [(0, .pointer (some (⟨b, 0, none⟩))), (1, .int .u8 c)] (by kernel_rfl) (bcheck_n b v l w (Mem.lend (R := [⟨57, 2, (obj b), 1, [.pointer none, v]⟩, ⟨5, 1, v, (List.length l), (ivals .u8 l)⟩]) (L := []) hM2)) ?_
  rintro _ w3 ⟨rfl, m4⟩
  refine ⟨_, rfl, ?_⟩
  have hM5 : Mem S w0 w3 [⟨57, 2, (obj b), 1, [.pointer (some (⟨b, 0, none⟩)), v]⟩, ⟨5, 1, v, (List.length l), (ivals .u8 l)⟩] := Mem.back (R := [⟨57, 2, (obj b), 1, [.pointer none, v]⟩, ⟨5, 1, v, (List.length l), (ivals .u8 l)⟩]) (L := []) hM2 m4
  have o19 : (Instr.loadAt 45 (.pointer (some (⟨b, 1, none⟩)))).run Tryd.prog w3 = .ok (v) w3 := c_load pE45 (hM5.rd 0 rfl) (cel_obj b 1) rfl
  obtain ⟨v6, w7, hr8, hM9⟩ := m_lit sT45 hM5 (n := 1) (parts := #[(0, .int .u8 c)]) (cs := [.int .u8 c]) (by decide) (by kernel_rfl) rfl
  have o20 : (Instr.buildSlice 45 1 #[(0, .int .u8 c)]).run Tryd.prog w3 = .ok v6 w7 := hr8
  obtain ⟨v10, w11, hr12, hM13⟩ := m_append sT45 hM9 2 rfl (hM9.rd 0 rfl) (by intro u hu; simp at hu; rcases hu with rfl <;> rfl) (by (try dsimp only); omega) (by (try dsimp only); omega) 45
  have hM14 : Mem S w0 w11 [⟨5, 1, v6, 1, [.int .u8 c]⟩, ⟨57, 2, (obj b), 1, [.pointer (some (⟨b, 0, none⟩)), v]⟩, ⟨5, 1, v10, (List.length (l ++ ([c] : List Int))), (ivals .u8 (l ++ ([c] : List Int)))⟩] := hM13.cast (by simp [ivals, svals, bvals, nvals, u8s, Nat.add_assoc])
  have o21 : (Builtin.append_ #[45, 45] 45 #[v, v6]).run Tryd.prog w7 = .ok v10 w11 := hr12
  obtain ⟨w15, hr16, hM17⟩ := c_store (u := v10) (by kernel_rfl) hM14 1 rfl (cel_obj b 1) (by decide) (rd_one (hM14.rd 2 rfl)) (rd_cells (hM14.rd 2 rfl))
  have hM18 : Mem S w0 w15 [⟨5, 1, v6, 1, [.int .u8 c]⟩, ⟨57, 2, (obj b), 1, [.pointer (some (⟨b, 0, none⟩)), v10]⟩, ⟨5, 1, v10, (List.length (l ++ ([c] : List Int))), (ivals .u8 (l ++ ([c] : List Int)))⟩] := hM17
  have o22 : (Instr.storeAt 45 (.pointer (some (⟨b, 1, none⟩))) (v10)).run Tryd.prog w11 = .ok () w15 ∧ undef = undef := ⟨hr16, rfl⟩
  have hM23 : Mem S w0 w15 [⟨57, 2, (obj b), 1, [.pointer (some (⟨b, 0, none⟩)), v10]⟩, ⟨5, 1, v10, (List.length (l ++ ([c] : List Int))), (ivals .u8 (l ++ ([c] : List Int)))⟩] := hM18.sub (List.Sublist.cons _ (List.Sublist.cons_cons _ (List.Sublist.cons_cons _ (List.Sublist.refl _))))
  refine GoS.run [4] [.n, .n, .n, .n, .n, .n, .n, .h (v), .n, .u (v6) (w7), .u (v10) (w11), .n, .n, .u (undef) (w15), .n, .n, .n, .n, .n] _ [.code (csub (cd Tryd.f28) [1,1,1,1])] [(4, .nilIface)] w15 (by kernel_rfl) (.cons o19 (.cons o20 (.cons o21 (.cons o22 .nil)))) ?_
  refine GoS.ret (fn := Tryd.f28) (v := (.nilIface)) Tryd.func28 (by kernel_rfl) ?_
  rw [hR]
  exact ⟨rfl, _, hM23⟩

set_option maxHeartbeats 400000 in
theorem bwb_u {S : List Nat} {w0 : World} (b : Nat) (v : Value) (l : List Int) (c : Int) (hl : l.length + 1 ≤ 140737488355328) (w : World) (hM : Mem S w0 w [⟨57, 2, (obj b), 1, [.pointer (some (⟨b, 0, none⟩)), v]⟩, ⟨5, 1, v, (List.length l), (ivals .u8 l)⟩]) :
    Calls Tryd.prog 28 #[.pointer (some (⟨b, 0, none⟩)), .int .u8 c] w (fun e w' => e = .returned .nilIface ∧ ∃ v, Mem S w0 w' [⟨57, 2, (obj b), 1, [.pointer (some (⟨b, 0, none⟩)), v]⟩, ⟨5, 1, v, (List.length (l ++ ([c] : List Int))), (ivals .u8 (l ++ ([c] : List Int)))⟩]) := by
  obtain ⟨R, hR⟩ : ∃ R : Ending → World → Prop, R = (fun e w' => e = .returned .nilIface ∧ ∃ v, Mem S w0 w' [⟨57, 2, (obj b), 1, [.pointer (some (⟨b, 0, none⟩)), v]⟩, ⟨5, 1, v, (List.length (l ++ ([c] : List Int))), (ivals .u8 (l ++ ([c] : List Int)))⟩]) := ⟨_, rfl⟩
  rw [← hR]
  refine GoS.enter (n := 17) Tryd.func28 (by kernel_rfl) rfl [(0, .pointer (some (⟨b, 0, none⟩))), (1, .int .u8 c)] (by kernel_rfl) (by kernel_rfl) ?_
  refine GoS.run [0, 1, 5] [.n, .n, .n, .n, .n, .n, .n] _ [.inRegion (cops (csub (cd Tryd.f28) [1,0])) [1], .code (csub (cd Tryd.f28) [1,1])] [(0, .pointer (some (⟨b, 0, none⟩))), (1, .int .u8 c), (5, .pointer (some (⟨b, 0, none⟩)))] w (by kernel_rfl) .nil ?_
  have hM1 : Mem S w0 w [⟨5, 1, v, (List.length l), (ivals .u8 l)⟩, ⟨57, 2, (obj b), 1, [.pointer (some (⟨b, 0, none⟩)), v]⟩] := hM.perm ((List.Perm.cons _ (List.Perm.refl _)).trans (List.Perm.swap _ _ _))
  have hM2 : Mem S w0 w [⟨57, 2, (obj b), 1, [.pointer (some (⟨b, 0, none⟩)), v]⟩, ⟨5, 1, v, (List.length l), (ivals .u8 l)⟩] := hM1.perm ((List.Perm.cons _ (List.Perm.refl _)).trans (List.Perm.swap _ _ _))
  refine GoS.call [0, 1] 35 #[.pointer (some (⟨b, 0, none⟩))] (some 6) [.inRegion (cops (csub (cd Tryd.f28) [1,0])) [], .code (csub (cd Tryd.f28) [1,1])] [(0, .pointer (some (⟨b, 0, none⟩))), (1, .int .u8 c)] (by kernel_rfl) (bcheck_u b v l w (Mem.lend (R := [⟨57, 2, (obj b), 1, [.pointer (some (⟨b, 0, none⟩)), v]⟩, ⟨5, 1, v, (List.length l), (ivals .u8 l)⟩]) (L := []) hM2)) ?_
  rintro _ w3 ⟨rfl, m4⟩
  refine ⟨_, rfl, ?_⟩
  have hM5 : Mem S w0 w3 [⟨57, 2, (obj b), 1, [.pointer (some (⟨b, 0, none⟩)), v]⟩, ⟨5, 1, v, (List.length l), (ivals .u8 l)⟩] := Mem.back (R := [⟨57, 2, (obj b), 1, [.pointer (some (⟨b, 0, none⟩)), v]⟩, ⟨5, 1, v, (List.length l), (ivals .u8 l)⟩]) (L := []) hM2 m4
  have o19 : (Instr.loadAt 45 (.pointer (some (⟨b, 1, none⟩)))).run Tryd.prog w3 = .ok (v) w3 := c_load pE45 (hM5.rd 0 rfl) (cel_obj b 1) rfl
  obtain ⟨v6, w7, hr8, hM9⟩ := m_lit sT45 hM5 (n := 1) (parts := #[(0, .int .u8 c)]) (cs := [.int .u8 c]) (by decide) (by kernel_rfl) rfl
  have o20 : (Instr.buildSlice 45 1 #[(0, .int .u8 c)]).run Tryd.prog w3 = .ok v6 w7 := hr8
  obtain ⟨v10, w11, hr12, hM13⟩ := m_append sT45 hM9 2 rfl (hM9.rd 0 rfl) (by intro u hu; simp at hu; rcases hu with rfl <;> rfl) (by (try dsimp only); omega) (by (try dsimp only); omega) 45
  have hM14 : Mem S w0 w11 [⟨5, 1, v6, 1, [.int .u8 c]⟩, ⟨57, 2, (obj b), 1, [.pointer (some (⟨b, 0, none⟩)), v]⟩, ⟨5, 1, v10, (List.length (l ++ ([c] : List Int))), (ivals .u8 (l ++ ([c] : List Int)))⟩] := hM13.cast (by simp [ivals, svals, bvals, nvals, u8s, Nat.add_assoc])
  have o21 : (Builtin.append_ #[45, 45] 45 #[v, v6]).run Tryd.prog w7 = .ok v10 w11 := hr12
  obtain ⟨w15, hr16, hM17⟩ := c_store (u := v10) (by kernel_rfl) hM14 1 rfl (cel_obj b 1) (by decide) (rd_one (hM14.rd 2 rfl)) (rd_cells (hM14.rd 2 rfl))
  have hM18 : Mem S w0 w15 [⟨5, 1, v6, 1, [.int .u8 c]⟩, ⟨57, 2, (obj b), 1, [.pointer (some (⟨b, 0, none⟩)), v10]⟩, ⟨5, 1, v10, (List.length (l ++ ([c] : List Int))), (ivals .u8 (l ++ ([c] : List Int)))⟩] := hM17
  have o22 : (Instr.storeAt 45 (.pointer (some (⟨b, 1, none⟩))) (v10)).run Tryd.prog w11 = .ok () w15 ∧ undef = undef := ⟨hr16, rfl⟩
  have hM23 : Mem S w0 w15 [⟨57, 2, (obj b), 1, [.pointer (some (⟨b, 0, none⟩)), v10]⟩, ⟨5, 1, v10, (List.length (l ++ ([c] : List Int))), (ivals .u8 (l ++ ([c] : List Int)))⟩] := hM18.sub (List.Sublist.cons _ (List.Sublist.cons_cons _ (List.Sublist.cons_cons _ (List.Sublist.refl _))))
  refine GoS.run [4] [.n, .n, .n, .n, .n, .n, .n, .h (v), .n, .u (v6) (w7), .u (v10) (w11), .n, .n, .u (undef) (w15), .n, .n, .n, .n, .n] _ [.code (csub (cd Tryd.f28) [1,1,1,1])] [(4, .nilIface)] w15 (by kernel_rfl) (.cons o19 (.cons o20 (.cons o21 (.cons o22 .nil)))) ?_
  refine GoS.ret (fn := Tryd.f28) (v := (.nilIface)) Tryd.func28 (by kernel_rfl) ?_
  rw [hR]
  exact ⟨rfl, _, hM23⟩

theorem bwb_c {S : List Nat} {w0 : World} (b : Nat) (p v : Value) (hp : p = .pointer none ∨ p = .pointer (some ⟨b, 0, none⟩)) (l : List Int) (c : Int) (hl : l.length + 1 ≤ 140737488355328) (w : World) (hM : Mem S w0 w [⟨57, 2, (obj b), 1, [p, v]⟩, ⟨5, 1, v, (List.length l), (ivals .u8 l)⟩]) :
    Calls Tryd.prog 28 #[.pointer (some ⟨b, 0, none⟩), .int .u8 c] w (fun e w' => e = .returned .nilIface ∧ ∃ v, Mem S w0 w' [⟨57, 2, (obj b), 1, [.pointer (some (⟨b, 0, none⟩)), v]⟩, ⟨5, 1, v, (List.length (l ++ ([c] : List Int))), (ivals .u8 (l ++ ([c] : List Int)))⟩]) := by
  rcases hp with rfl | rfl
  · exact bwb_n b v l c hl w hM
  · exact bwb_u b v l c hl w hM

set_option maxHeartbeats 400000 in
theorem bstr_c {S : List Nat} {w0 : World} (b : Nat) (v : Value) (l : List Int) (hb : ∀ x ∈ l, 0 ≤ x ∧ x ≤ 255) (h0 : 0 < l.length) (w : World) (hM : Mem S w0 w [⟨57, 2, (obj b), 1, [.pointer (some (⟨b, 0, none⟩)), v]⟩, ⟨5, 1, v, (List.length l), (ivals .u8 l)⟩]) :
    Calls Tryd.prog 29 #[.pointer (some (⟨b, 0, none⟩))] w (fun e w' => e = .returned (.string (sb (bytesOf l))) ∧ Mem S w0 w' [⟨57, 2, (obj b), 1, [.pointer (some (⟨b, 0, none⟩)), v]⟩]) := by
  have hown := hM.get 1 rfl
  obtain ⟨g, cap, hv, hc0⟩ := sl_form hown h0
  have hsl : ∀ W : World, (Builtin.len_ #[45] 3 #[v]).run Tryd.prog W = .ok (.int .i64 ((List.length l : Nat) : Int)) W := fun W => f_slen sT45 (hM.rd 1 rfl) 3 W
  have hsd : ∀ W : World, (Builtin.unsafeSliceData_ #[45] 68 #[v]).run Tryd.prog W = .ok (.pointer (some ⟨g, 0, none⟩)) W := f_sdata hv hc0
  obtain ⟨R, hR⟩ : ∃ R : Ending → World → Prop, R = (fun e w' => e = .returned (.string (sb (bytesOf l))) ∧ Mem S w0 w' [⟨57, 2, (obj b), 1, [.pointer (some (⟨b, 0, none⟩)), v]⟩]) := ⟨_, rfl⟩
  rw [← hR]
  refine GoS.enter (n := 14) Tryd.func29 (by kernel_rfl) rfl [(0, .pointer (some (⟨b, 0, none⟩)))] (by kernel_rfl) (by kernel_rfl) ?_
  refine GoS.run [0] [.n, .n, .n, .n, .n] _ [.code (csub (cd Tryd.f29) [1,0]), .code (csub (cd Tryd.f29) [1,1])] [(0, .pointer (some (⟨b, 0, none⟩)))] w (by kernel_rfl) .nil ?_
  obtain ⟨w1, hw2⟩ : ∃ w_, (w).drewN 1 = w_ := ⟨_, rfl⟩
  refine GoS.held (fun W_ => Mem S w0 W_ [⟨57, 2, (obj b), 1, [.pointer (some (⟨b, 0, none⟩)), v]⟩]) [] 1 (by kernel_rfl) (by kernel_rfl) 12 (by kernel_rfl) ?_
  rw [hw2]
  have hM3 : Mem S w0 w1 [⟨57, 2, (obj b), 1, [.pointer (some (⟨b, 0, none⟩)), v]⟩, ⟨5, 1, v, (List.length l), (ivals .u8 l)⟩] := hw2 ▸ hM.ext (Kept.drewN _ _ 1)
  have hS4 : Mem S w0 w1 [⟨57, 2, (obj b), 1, [.pointer (some (⟨b, 0, none⟩)), v]⟩] := hM3.sub (List.Sublist.cons_cons _ (List.Sublist.cons _ (List.Sublist.refl _)))
  refine GoH.takeV 0 (.pointer (some (⟨b, 0, none⟩))) (.pointer (some (⟨b, 0, none⟩))) (some 3) (fun W_ => by kernel_rfl) rfl hS4 ?_
  refine GoH.takeV 1 (.pointer (some (⟨b, 0, none⟩))) (.pointer (some (⟨b, 0, none⟩))) (some 4) (fun W_ => by kernel_rfl) rfl hS4 ?_
  refine GoH.takeV 2 (.pointer (some (⟨b, 1, none⟩))) (.pointer (some (⟨b, 1, none⟩))) (some 5) (fun W_ => by kernel_rfl) rfl hS4 ?_
  refine GoH.takeF 3 (v) (fun W_ => (Instr.loadAt 45 (.pointer (some (⟨b, 1, none⟩)))).run Tryd.prog W_ = .ok (v) W_) (some 6) (fun W_ => by kernel_rfl) (fun W_ hW_ => c_load pE45 (hW_.rd 0 rfl) (cel_obj b 1) rfl) hS4 ?_
  refine GoH.takeF 4 (.pointer (some (⟨g, 0, none⟩))) (fun W_ => (Builtin.unsafeSliceData_ #[45] 68 #[v]).run Tryd.prog W_ = .ok (.pointer (some (⟨g, 0, none⟩))) W_) (some 7) (fun W_ => by kernel_rfl) (fun W_ hW_ => hsd W_) hS4 ?_
  refine GoH.takeV 5 (.pointer (some (⟨b, 0, none⟩))) (.pointer (some (⟨b, 0, none⟩))) (some 8) (fun W_ => by kernel_rfl) rfl hS4 ?_
  refine GoH.takeV 6 (.pointer (some (⟨b, 0, none⟩))) (.pointer (some (⟨b, 0, none⟩))) (some 9) (fun W_ => by kernel_rfl) rfl hS4 ?_
  refine GoH.takeV 7 (.pointer (some (⟨b, 1, none⟩))) (.pointer (some (⟨b, 1, none⟩))) (some 10) (fun W_ => by kernel_rfl) rfl hS4 ?_
  refine GoH.takeF 8 (v) (fun W_ => (Instr.loadAt 45 (.pointer (some (⟨b, 1, none⟩)))).run Tryd.prog W_ = .ok (v) W_) (some 11) (fun W_ => by kernel_rfl) (fun W_ hW_ => c_load pE45 (hW_.rd 0 rfl) (cel_obj b 1) rfl) hS4 ?_
  refine GoH.takeF 9 (.int .i64 (((List.length l) : Nat) : Int)) (fun W_ => (Builtin.len_ #[45] 3 #[v]).run Tryd.prog W_ = .ok (.int .i64 (((List.length l) : Nat) : Int)) W_) (some 12) (fun W_ => by kernel_rfl) (fun W_ hW_ => hsl W_) hS4 ?_
  have hM5 : Mem S w0 w1 [⟨5, 1, v, (List.length l), (ivals .u8 l)⟩, ⟨57, 2, (obj b), 1, [.pointer (some (⟨b, 0, none⟩)), v]⟩] := hM3.perm ((List.Perm.cons _ (List.Perm.refl _)).trans (List.Perm.swap _ _ _))
  obtain ⟨w6, hr7, hM8⟩ := m_ustr (pt := 68) (it := 3) (ty := 9) Tryd.underlying68 (by kernel_rfl) hM5 hv hb h0
  have hS9 : Mem S w0 w6 [⟨57, 2, (obj b), 1, [.pointer (some (⟨b, 0, none⟩)), v]⟩] := hM8.sub (List.Sublist.cons_cons _ (List.Sublist.refl _))
  refine GoH.stepF 10 (.string (sb (bytesOf l))) (w6) ((Builtin.unsafeString_ #[68, 3] 9 #[.pointer (some (⟨g, 0, none⟩)), .int .i64 (((List.length l) : Nat) : Int)]).run Tryd.prog w1 = .ok (.string (sb (bytesOf l))) w6) (some 13) (by kernel_rfl) (hr7) (.inr hS9) ?_
  refine GoH.takeV 11 (.string (sb (bytesOf l))) (.string (sb (bytesOf l))) (some 2) (fun W_ => by kernel_rfl) rfl hS9 ?_
  refine GoH.done [2] [(2, .string (sb (bytesOf l)))] (by kernel_rfl) (by kernel_rfl) ?_
  refine GoS.ret (fn := Tryd.f29) (v := (.string (sb (bytesOf l)))) Tryd.func29 (by kernel_rfl) ?_
  rw [hR]
  exact ⟨rfl, hM8⟩

set_option maxHeartbeats 400000 in
theorem blen_c {S : List Nat} {w0 : World} (b : Nat) (p v : Value) (n : Nat) (hsl : ∀ W : World, (Builtin.len_ #[45] 3 #[v]).run Tryd.prog W = .ok (.int .i64 ((n : Nat) : Int)) W) (w : World) (hM : Mem S w0 w [⟨57, 2, (obj b), 1, [p, v]⟩]) :
    Calls Tryd.prog 30 #[.pointer (some (⟨b, 0, none⟩))] w (fun e w' => e = .returned (.int .i64 ((n : Nat) : Int)) ∧ Mem S w0 w' [⟨57, 2, (obj b), 1, [p, v]⟩]) := by
  obtain ⟨R, hR⟩ : ∃ R : Ending → World → Prop, R = (fun e w' => e = .returned (.int .i64 ((n : Nat) : Int)) ∧ Mem S w0 w' [⟨57, 2, (obj b), 1, [p, v]⟩]) := ⟨_, rfl⟩
  rw [← hR]
  refine GoS.enter (n := 8) Tryd.func30 (by kernel_rfl) rfl [(0, .pointer (some (⟨b, 0, none⟩)))] (by kernel_rfl) (by kernel_rfl) ?_
  have o1 : (Instr.loadAt 45 (.pointer (some (⟨b, 1, none⟩)))).run Tryd.prog w = .ok (v) w := c_load pE45 (hM.rd 0 rfl) (cel_obj b 1) rfl
  have o2 : (Builtin.len_ #[45] 3 #[v]).run Tryd.prog w = .ok (.int .i64 ((n : Nat) : Int)) w := hsl w
  refine GoS.run [2] [.n, .n, .n, .n, .n, .n, .n, .n, .n, .h (v), .h (.int .i64 ((n : Nat) : Int)), .n, .n] _ [.code (csub (cd Tryd.f30) [1,1])] [(2, .int .i64 ((n : Nat) : Int))] w (by kernel_rfl) (.cons o1 (.cons o2 .nil)) ?_
  refine GoS.ret (fn := Tryd.f30) (v := (.int .i64 ((n : Nat) : Int))) Tryd.func30 (by kernel_rfl) ?_
  rw [hR]
  exact ⟨rfl, hM⟩


end Go.Proofs.YtmjkbmlcclmdkaaDoor
