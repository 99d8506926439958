/-
  The walks of Push and Pop of a heap.
-/
import Derived.Test.YtbammppeneoffaaTopC
namespace Go.Proofs.Ytbammppeneoffaa
open Go Go.Gw Go.HitP Go.RowKit
set_option linter.unusedVariables false
set_option linter.unusedSimpArgs false

theorem oT31 : ObjT Try.prog 31 2 (.agg #[.string (sb ([])), .int .i64 0]) := ⟨⟨_, rfl, by kernel_rfl, by kernel_rfl⟩, rfl⟩

set_option maxHeartbeats 2000000 in
theorem hpush_c {S : List Nat} {w0 : World} (b : Nat) (v : Value) (ms sn : Int) (l : List Hit) (x : Hit) (w : World) (hll : l.length ≤ 1000000) (hM : Mem S w0 w [⟨43, 3, (obj b), 1, [v, .int .i64 ms, .int .i64 sn]⟩, ⟨31, 2, v, (List.length l), (recs hitC l)⟩]) :
    Calls Try.prog 60 #[.pointer (some (⟨b, 0, none⟩)), (.iface 31 (.agg #[.string (sb (x.key)), .int .i64 (x.score)]))] w (fun e w' => ∃ v', e = .returned (.tuple #[]) ∧ Mem S w0 w' [⟨43, 3, (obj b), 1, [v', .int .i64 ms, .int .i64 sn]⟩, ⟨31, 2, v', (List.length (l ++ [x])), (recs hitC (l ++ [x]))⟩]) := by
  obtain ⟨R, hR⟩ : ∃ R : Ending → World → Prop, R = (fun e w' => ∃ v', e = .returned (.tuple #[]) ∧ Mem S w0 w' [⟨43, 3, (obj b), 1, [v', .int .i64 ms, .int .i64 sn]⟩, ⟨31, 2, v', (List.length (l ++ [x])), (recs hitC (l ++ [x]))⟩]) := ⟨_, rfl⟩
  rw [← hR]
  refine GoS.enter (n := 13) Try.func60 (by kernel_rfl) rfl [(0, .pointer (some (⟨b, 0, none⟩))), (1, (.iface 31 (.agg #[.string (sb (x.key)), .int .i64 (x.score)])))] (by kernel_rfl) (by kernel_rfl) ?_
  obtain ⟨w1, hw2⟩ : ∃ w_, (w).drewN 1 = w_ := ⟨_, rfl⟩
  refine GoS.held (fun W_ => Mem S w0 W_ []) [] 0 (by kernel_rfl) (by kernel_rfl) 10 (by kernel_rfl) ?_
  rw [hw2]
  have hM3 : Mem S w0 w1 [⟨43, 3, (obj b), 1, [v, .int .i64 ms, .int .i64 sn]⟩, ⟨31, 2, v, (List.length l), (recs hitC l)⟩] := hw2 ▸ hM.ext (Kept.drewN _ _ 1)
  have hS4 : Mem S w0 w1 [] := hM3.sub (List.Sublist.cons _ (List.Sublist.cons _ (List.Sublist.refl _)))
  refine GoH.takeV 0 (.pointer (some (⟨b, 0, none⟩))) (.pointer (some (⟨b, 0, none⟩))) (some 4) (fun W_ => by kernel_rfl) rfl hS4 ?_
  refine GoH.takeV 1 (.pointer (some (⟨b, 0, none⟩))) (.pointer (some (⟨b, 0, none⟩))) (some 5) (fun W_ => by kernel_rfl) rfl hS4 ?_
  refine GoH.takeV 2 (.pointer (some (⟨b, 0, none⟩))) (.pointer (some (⟨b, 0, none⟩))) (some 6) (fun W_ => by kernel_rfl) rfl hS4 ?_
  refine GoH.takeV 4 ((.iface 31 (.agg #[.string (sb (x.key)), .int .i64 (x.score)]))) ((.iface 31 (.agg #[.string (sb (x.key)), .int .i64 (x.score)]))) (some 8) (fun W_ => by kernel_rfl) rfl hS4 ?_
  refine GoH.takeV 5 (.agg #[.string (sb (x.key)), .int .i64 (x.score)]) (.agg #[.string (sb (x.key)), .int .i64 (x.score)]) (some 9) (fun W_ => by kernel_rfl) rfl hS4 ?_
  refine GoH.each [3, 6] (by kernel_rfl) (by kernel_rfl) ⟨?_, ?_, trivial⟩
  ·
    have hS5 : Mem S w0 w1 [] := hM3.sub (List.Sublist.cons _ (List.Sublist.cons _ (List.Sublist.refl _)))
    refine GoI.stepF 3 (v) (w1) ((Instr.loadAt 41 (.pointer (some (⟨b, 0, none⟩)))).run Try.prog w1 = .ok (v) w1) (some 7) (by kernel_rfl) (c_load pE41 (hM3.rd 0 rfl) (cel_obj b 0) rfl) (.inr hS5) ?_
    obtain ⟨v6, w7, hr8, hM9⟩ := m_lit sT41 hM3 (n := 1) (parts := #[(0, .agg #[.string (sb (x.key)), .int .i64 (x.score)])]) (cs := [.string (sb (x.key)), .int .i64 (x.score)]) (by decide) (by kernel_rfl) rfl
    have hS10 : Mem S w0 w7 [] := hM9.sub (List.Sublist.cons _ (List.Sublist.cons _ (List.Sublist.cons _ (List.Sublist.refl _))))
    refine GoH.stepF 6 (v6) (w7) ((Instr.buildSlice 41 1 #[(0, .agg #[.string (sb (x.key)), .int .i64 (x.score)])]).run Try.prog w1 = .ok v6 w7) (some 10) (by kernel_rfl) (hr8) (.inr hS10) ?_
    obtain ⟨v11, w12, hr13, hM14⟩ := m_append sT41 hM9 2 rfl (hM9.rd 0 rfl) (by intro u hu; simp at hu; rcases hu with rfl | rfl <;> rfl) (by first | omega | ((try dsimp only); omega)) (by first | omega | ((try dsimp only); omega)) 41
    have hM15 : Mem S w0 w12 [⟨31, 2, v6, 1, [.string (sb (x.key)), .int .i64 (x.score)]⟩, ⟨43, 3, (obj b), 1, [v, .int .i64 ms, .int .i64 sn]⟩, ⟨31, 2, v11, (List.length (l ++ ([(Hit.mk (x.key) (x.score))] : List Hit))), (recs hitC (l ++ ([(Hit.mk (x.key) (x.score))] : List Hit)))⟩] := hM14.cast (by simp [ivals, svals, bvals, nvals, u8s, Nat.add_assoc, recs, hitC])
    have hS16 : Mem S w0 w12 [] := hM15.sub (List.Sublist.cons _ (List.Sublist.cons _ (List.Sublist.cons _ (List.Sublist.refl _))))
    refine GoH.stepF 7 (v11) (w12) ((Builtin.append_ #[41, 41] 41 #[v, v6]).run Try.prog w7 = .ok v11 w12) (some 11) (by kernel_rfl) (hr13) (.inr hS16) ?_
    refine GoH.takeV 8 (.pointer (some (⟨b, 0, none⟩))) (.pointer (some (⟨b, 0, none⟩))) (some 12) (fun W_ => by kernel_rfl) rfl hS16 ?_
    obtain ⟨w17, hr18, hM19⟩ := c_store (u := v11) (by kernel_rfl) hM15 1 rfl (cel_obj b 0) (by decide) (rd_one (hM15.rd 2 rfl)) (rd_cells (hM15.rd 2 rfl))
    have hM20 : Mem S w0 w17 [⟨31, 2, v6, 1, [.string (sb (x.key)), .int .i64 (x.score)]⟩, ⟨43, 3, (obj b), 1, [v11, .int .i64 ms, .int .i64 sn]⟩, ⟨31, 2, v11, (List.length (l ++ ([(Hit.mk (x.key) (x.score))] : List Hit))), (recs hitC (l ++ ([(Hit.mk (x.key) (x.score))] : List Hit)))⟩] := hM19
    have hS21 : Mem S w0 w17 [] := hM20.sub (List.Sublist.cons _ (List.Sublist.cons _ (List.Sublist.cons _ (List.Sublist.refl _))))
    refine GoH.stepF 9 (undef) (w17) ((Instr.storeAt 41 (.pointer (some (⟨b, 0, none⟩))) (v11)).run Try.prog w12 = .ok () w17 ∧ undef = undef) none (by kernel_rfl) (⟨hr18, rfl⟩) (.inr hS21) ?_
    refine GoH.done [] [] (by kernel_rfl) (by kernel_rfl) ?_
    have hM22 : Mem S w0 w17 [⟨43, 3, (obj b), 1, [v11, .int .i64 ms, .int .i64 sn]⟩, ⟨31, 2, v11, (List.length (l ++ ([(Hit.mk (x.key) (x.score))] : List Hit))), (recs hitC (l ++ ([(Hit.mk (x.key) (x.score))] : List Hit)))⟩] := hM20.sub (List.Sublist.cons _ (List.Sublist.cons_cons _ (List.Sublist.cons_cons _ (List.Sublist.refl _))))
    refine GoS.fin (fn := Try.f60) (v := (.tuple #[])) Try.func60 (by kernel_rfl) ?_
    rw [hR]
    have hM41 : Mem S w0 w17 [⟨31, 2, v11, (List.length (l ++ ([(Hit.mk (x.key) (x.score))] : List Hit))), (recs hitC (l ++ ([(Hit.mk (x.key) (x.score))] : List Hit)))⟩, ⟨43, 3, (obj b), 1, [v11, .int .i64 ms, .int .i64 sn]⟩] := hM22.perm ((List.Perm.cons _ (List.Perm.refl _)).trans (List.Perm.swap _ _ _))
    have hM42 : Mem S w0 w17 [⟨43, 3, (obj b), 1, [v11, .int .i64 ms, .int .i64 sn]⟩, ⟨31, 2, v11, (List.length (l ++ ([(Hit.mk (x.key) (x.score))] : List Hit))), (recs hitC (l ++ ([(Hit.mk (x.key) (x.score))] : List Hit)))⟩] := hM41.perm ((List.Perm.cons _ (List.Perm.refl _)).trans (List.Perm.swap _ _ _))
    exact ⟨v11, rfl, (hM42.sub (List.Sublist.cons_cons _ (List.Sublist.cons_cons _ (List.nil_sublist _)))).cast rfl⟩
  ·
    obtain ⟨v23, w24, hr25, hM26⟩ := m_lit sT41 hM3 (n := 1) (parts := #[(0, .agg #[.string (sb (x.key)), .int .i64 (x.score)])]) (cs := [.string (sb (x.key)), .int .i64 (x.score)]) (by decide) (by kernel_rfl) rfl
    have hS27 : Mem S w0 w24 [] := hM26.sub (List.Sublist.cons _ (List.Sublist.cons _ (List.Sublist.cons _ (List.Sublist.refl _))))
    refine GoI.stepF 6 (v23) (w24) ((Instr.buildSlice 41 1 #[(0, .agg #[.string (sb (x.key)), .int .i64 (x.score)])]).run Try.prog w1 = .ok v23 w24) (some 10) (by kernel_rfl) (hr25) (.inr hS27) ?_
    have hS28 : Mem S w0 w24 [] := hM26.sub (List.Sublist.cons _ (List.Sublist.cons _ (List.Sublist.cons _ (List.Sublist.refl _))))
    refine GoH.stepF 3 (v) (w24) ((Instr.loadAt 41 (.pointer (some (⟨b, 0, none⟩)))).run Try.prog w24 = .ok (v) w24) (some 7) (by kernel_rfl) (c_load pE41 (hM26.rd 1 rfl) (cel_obj b 0) rfl) (.inr hS28) ?_
    obtain ⟨v29, w30, hr31, hM32⟩ := m_append sT41 hM26 2 rfl (hM26.rd 0 rfl) (by intro u hu; simp at hu; rcases hu with rfl | rfl <;> rfl) (by first | omega | ((try dsimp only); omega)) (by first | omega | ((try dsimp only); omega)) 41
    have hM33 : Mem S w0 w30 [⟨31, 2, v23, 1, [.string (sb (x.key)), .int .i64 (x.score)]⟩, ⟨43, 3, (obj b), 1, [v, .int .i64 ms, .int .i64 sn]⟩, ⟨31, 2, v29, (List.length (l ++ ([(Hit.mk (x.key) (x.score))] : List Hit))), (recs hitC (l ++ ([(Hit.mk (x.key) (x.score))] : List Hit)))⟩] := hM32.cast (by simp [ivals, svals, bvals, nvals, u8s, Nat.add_assoc, recs, hitC])
    have hS34 : Mem S w0 w30 [] := hM33.sub (List.Sublist.cons _ (List.Sublist.cons _ (List.Sublist.cons _ (List.Sublist.refl _))))
    refine GoH.stepF 7 (v29) (w30) ((Builtin.append_ #[41, 41] 41 #[v, v23]).run Try.prog w24 = .ok v29 w30) (some 11) (by kernel_rfl) (hr31) (.inr hS34) ?_
    refine GoH.takeV 8 (.pointer (some (⟨b, 0, none⟩))) (.pointer (some (⟨b, 0, none⟩))) (some 12) (fun W_ => by kernel_rfl) rfl hS34 ?_
    obtain ⟨w35, hr36, hM37⟩ := c_store (u := v29) (by kernel_rfl) hM33 1 rfl (cel_obj b 0) (by decide) (rd_one (hM33.rd 2 rfl)) (rd_cells (hM33.rd 2 rfl))
    have hM38 : Mem S w0 w35 [⟨31, 2, v23, 1, [.string (sb (x.key)), .int .i64 (x.score)]⟩, ⟨43, 3, (obj b), 1, [v29, .int .i64 ms, .int .i64 sn]⟩, ⟨31, 2, v29, (List.length (l ++ ([(Hit.mk (x.key) (x.score))] : List Hit))), (recs hitC (l ++ ([(Hit.mk (x.key) (x.score))] : List Hit)))⟩] := hM37
    have hS39 : Mem S w0 w35 [] := hM38.sub (List.Sublist.cons _ (List.Sublist.cons _ (List.Sublist.cons _ (List.Sublist.refl _))))
    refine GoH.stepF 9 (undef) (w35) ((Instr.storeAt 41 (.pointer (some (⟨b, 0, none⟩))) (v29)).run Try.prog w30 = .ok () w35 ∧ undef = undef) none (by kernel_rfl) (⟨hr36, rfl⟩) (.inr hS39) ?_
    refine GoH.done [] [] (by kernel_rfl) (by kernel_rfl) ?_
    have hM40 : Mem S w0 w35 [⟨43, 3, (obj b), 1, [v29, .int .i64 ms, .int .i64 sn]⟩, ⟨31, 2, v29, (List.length (l ++ ([(Hit.mk (x.key) (x.score))] : List Hit))), (recs hitC (l ++ ([(Hit.mk (x.key) (x.score))] : List Hit)))⟩] := hM38.sub (List.Sublist.cons _ (List.Sublist.cons_cons _ (List.Sublist.cons_cons _ (List.Sublist.refl _))))
    refine GoS.fin (fn := Try.f60) (v := (.tuple #[])) Try.func60 (by kernel_rfl) ?_
    rw [hR]
    have hM43 : Mem S w0 w35 [⟨31, 2, v29, (List.length (l ++ ([(Hit.mk (x.key) (x.score))] : List Hit))), (recs hitC (l ++ ([(Hit.mk (x.key) (x.score))] : List Hit)))⟩, ⟨43, 3, (obj b), 1, [v29, .int .i64 ms, .int .i64 sn]⟩] := hM40.perm ((List.Perm.cons _ (List.Perm.refl _)).trans (List.Perm.swap _ _ _))
    have hM44 : Mem S w0 w35 [⟨43, 3, (obj b), 1, [v29, .int .i64 ms, .int .i64 sn]⟩, ⟨31, 2, v29, (List.length (l ++ ([(Hit.mk (x.key) (x.score))] : List Hit))), (recs hitC (l ++ ([(Hit.mk (x.key) (x.score))] : List Hit)))⟩] := hM43.perm ((List.Perm.cons _ (List.Perm.refl _)).trans (List.Perm.swap _ _ _))
    exact ⟨v29, rfl, (hM44.sub (List.Sublist.cons_cons _ (List.Sublist.cons_cons _ (List.nil_sublist _)))).cast rfl⟩

set_option maxHeartbeats 1000000 in
theorem hpop_c {S : List Nat} {w0 : World} (b : Nat) (v : Value) (ms sn : Int) (p : List Hit) (x : Hit) (w : World) (hll : p.length ≤ 1000000) (hM : Mem S w0 w [⟨43, 3, (obj b), 1, [v, .int .i64 ms, .int .i64 sn]⟩, ⟨31, 2, v, (List.length (p ++ [x])), (recs hitC (p ++ [x]))⟩]) :
    Calls Try.prog 59 #[.pointer (some (⟨b, 0, none⟩))] w (fun e w' => ∃ v' u, e = .returned u ∧ Mem S w0 w' [⟨43, 3, (obj b), 1, [v', .int .i64 ms, .int .i64 sn]⟩, ⟨31, 2, v', (List.length p), (recs hitC p)⟩]) := by
  have hpx : (p ++ [x]).length = p.length + 1 := by simp
  obtain ⟨R, hR⟩ : ∃ R : Ending → World → Prop, R = (fun e w' => ∃ v' u, e = .returned u ∧ Mem S w0 w' [⟨43, 3, (obj b), 1, [v', .int .i64 ms, .int .i64 sn]⟩, ⟨31, 2, v', (List.length p), (recs hitC p)⟩]) := ⟨_, rfl⟩
  rw [← hR]
  refine GoS.enter (n := 23) Try.func59 (by kernel_rfl) rfl [(0, .pointer (some (⟨b, 0, none⟩)))] (by kernel_rfl) (by kernel_rfl) ?_
  have o18 : (Instr.loadAt 41 (.pointer (some (⟨b, 0, none⟩)))).run Try.prog w = .ok (v) w := c_load pE41 (hM.rd 0 rfl) (cel_obj b 0) rfl
  have o19 : (Builtin.len_ #[41] 3 #[v]).run Try.prog w = .ok (.int .i64 (((List.length (p ++ [x])) : Nat) : Int)) w := f_slen sT41 (hM.rd 1 rfl) 3 _
  have o20 : (binOp .sub 3 (.int .i64 (((List.length (p ++ [x])) : Nat) : Int)) (.int .i64 1)).run Try.prog w = .ok (.int .i64 ((((List.length (p ++ [x])) - 1) : Nat) : Int)) w := f_sub (by rw [show (((List.length (p ++ [x])) : Nat) : Int) - 1 = ((((List.length (p ++ [x])) - 1) : Nat) : Int) by omega]; exact IntWalk.i64_in _ (by omega))
  obtain ⟨p1, hp2, hq3⟩ := rd_at (i := ((((List.length (p ++ [x])) - 1) : Nat) : Int)) sT41 (hM.rd 1 rfl) ((List.length (p ++ [x])) - 1) (by omega) (by first | omega | (simp only [List.length_append, List.length_cons, List.length_nil]; omega))
  have o21 : (Instr.indexAt 41 (v) (.int .i64 ((((List.length (p ++ [x])) - 1) : Nat) : Int))).run Try.prog w = .ok (.pointer (some p1)) w := hq3 _ _
  have o22 : (Instr.loadAt 31 (.pointer (some p1))).run Try.prog w = .ok (.agg #[.string (sb ((List.getD (p ++ [x]) ((List.length (p ++ [x])) - 1) hz).key)), .int .i64 ((List.getD (p ++ [x]) ((List.length (p ++ [x])) - 1) hz).score)]) w := r_loads (f := hitC) (l := (p ++ [x])) aE31 (hM.rd 1 rfl) hitC_len hp2 (by first | omega | (simp only [List.length_append, List.length_cons, List.length_nil]; omega)) hz
  obtain ⟨b4, w5, hr6, hM7⟩ := m_alloc oT31 hM
  have hM8 : Mem S w0 w5 [⟨31, 2, (obj b4), 1, [.string (sb ([])), .int .i64 0]⟩, ⟨43, 3, (obj b), 1, [v, .int .i64 ms, .int .i64 sn]⟩, ⟨31, 2, v, (List.length (p ++ [x])), (recs hitC (p ++ [x]))⟩] := hM7
  have o23 : (Instr.alloc 31 true (.tuple #[])).run Try.prog w = .ok (.pointer (some (⟨b4, 0, none⟩))) w5 := hr6
  obtain ⟨w9, hr10, hM11⟩ := c_stores (ys := [.string (sb ((List.getD (p ++ [x]) ((List.length (p ++ [x])) - 1) hz).key)), .int .i64 ((List.getD (p ++ [x]) ((List.length (p ++ [x])) - 1) hz).score)]) aE31 hM8 0 rfl (cel_obj b4 0) rfl (by decide) (by intro u hu; simp at hu; rcases hu with rfl | rfl <;> first | rfl)
  have hM12 : Mem S w0 w9 [⟨31, 2, (obj b4), 1, [.string (sb ((List.getD (p ++ [x]) ((List.length (p ++ [x])) - 1) hz).key)), .int .i64 ((List.getD (p ++ [x]) ((List.length (p ++ [x])) - 1) hz).score)]⟩, ⟨43, 3, (obj b), 1, [v, .int .i64 ms, .int .i64 sn]⟩, ⟨31, 2, v, (List.length (p ++ [x])), (recs hitC (p ++ [x]))⟩] := hM11
  have o24 : (Instr.storeAt 31 (.pointer (some (⟨b4, 0, none⟩))) (.agg #[.string (sb ((List.getD (p ++ [x]) ((List.length (p ++ [x])) - 1) hz).key)), .int .i64 ((List.getD (p ++ [x]) ((List.length (p ++ [x])) - 1) hz).score)])).run Try.prog w5 = .ok () w9 ∧ undef = undef := ⟨hr10, rfl⟩
  have o25 : (Builtin.len_ #[41] 3 #[v]).run Try.prog w9 = .ok (.int .i64 (((List.length (p ++ [x])) : Nat) : Int)) w9 := f_slen sT41 (hM12.rd 2 rfl) 3 _
  have o26 : (binOp .sub 3 (.int .i64 (((List.length (p ++ [x])) : Nat) : Int)) (.int .i64 1)).run Try.prog w9 = .ok (.int .i64 ((((List.length (p ++ [x])) - 1) : Nat) : Int)) w9 := f_sub (by rw [show (((List.length (p ++ [x])) : Nat) : Int) - 1 = ((((List.length (p ++ [x])) - 1) : Nat) : Int) by omega]; exact IntWalk.i64_in _ (by omega))
  have hM13 : Mem S w0 w9 [⟨31, 2, (obj b4), 1, [.string (sb ((List.getD (p ++ [x]) ((List.length (p ++ [x])) - 1) hz).key)), .int .i64 ((List.getD (p ++ [x]) ((List.length (p ++ [x])) - 1) hz).score)]⟩, ⟨43, 3, (obj b), 1, [v, .int .i64 ms, .int .i64 sn]⟩, ⟨31, 2, (cut v ((List.length (p ++ [x])) - 1)), ((List.length (p ++ [x])) - 1), (recs hitC (List.take ((List.length (p ++ [x])) - 1) (p ++ [x])))⟩] := (Mem.cutrow hM12 2 rfl ((List.length (p ++ [x])) - 1) (by first | omega | (simp only [List.length_append, List.length_cons, List.length_nil]; omega))).cast (by first | (dsimp only [List.set, List.set_cons_succ, List.set_cons_zero]; rw [recs_take hitC_len]; done) | (simp [ivals, nvals, u8s, svals, bvals, List.map_take, recs, hitC]; done))
  have o27 : (Instr.sliceAt 41 (v) none (some (.int .i64 ((((List.length (p ++ [x])) - 1) : Nat) : Int))) none).run Try.prog w9 = .ok (cut v ((List.length (p ++ [x])) - 1)) w9 := f_cut0 sT41 (hM12.rd 2 rfl) ((List.length (p ++ [x])) - 1) (by omega) (by first | omega | (simp only [List.length_append, List.length_cons, List.length_nil]; omega)) _ _
  obtain ⟨w14, hr15, hM16⟩ := c_store (u := (cut v ((List.length (p ++ [x])) - 1))) (by kernel_rfl) hM13 1 rfl (cel_obj b 0) (by decide) (rd_one (hM13.rd 2 rfl)) (rd_cells (hM13.rd 2 rfl))
  have hM17 : Mem S w0 w14 [⟨31, 2, (obj b4), 1, [.string (sb ((List.getD (p ++ [x]) ((List.length (p ++ [x])) - 1) hz).key)), .int .i64 ((List.getD (p ++ [x]) ((List.length (p ++ [x])) - 1) hz).score)]⟩, ⟨43, 3, (obj b), 1, [(cut v ((List.length (p ++ [x])) - 1)), .int .i64 ms, .int .i64 sn]⟩, ⟨31, 2, (cut v ((List.length (p ++ [x])) - 1)), ((List.length (p ++ [x])) - 1), (recs hitC (List.take ((List.length (p ++ [x])) - 1) (p ++ [x])))⟩] := hM16
  have o28 : (Instr.storeAt 41 (.pointer (some (⟨b, 0, none⟩))) ((cut v ((List.length (p ++ [x])) - 1)))).run Try.prog w9 = .ok () w14 ∧ undef = undef := ⟨hr15, rfl⟩
  have o29 : (Instr.loadAt 31 (.pointer (some (⟨b4, 0, none⟩)))).run Try.prog w14 = .ok (.agg #[.string (sb ((List.getD (p ++ [x]) ((List.length (p ++ [x])) - 1) hz).key)), .int .i64 ((List.getD (p ++ [x]) ((List.length (p ++ [x])) - 1) hz).score)]) w14 := c_loads (ys := [.string (sb ((List.getD (p ++ [x]) ((List.length (p ++ [x])) - 1) hz).key)), .int .i64 ((List.getD (p ++ [x]) ((List.length (p ++ [x])) - 1) hz).score)]) aE31 (hM17.rd 0 rfl) (cel_obj b4 0) rfl (by intro j u hj; match j, hj with | 0, hj => exact hj | 1, hj => exact hj | n + 2, hj => cases hj)
  have hM30 : Mem S w0 w14 [⟨43, 3, (obj b), 1, [(cut v ((List.length (p ++ [x])) - 1)), .int .i64 ms, .int .i64 sn]⟩, ⟨31, 2, (cut v ((List.length (p ++ [x])) - 1)), ((List.length (p ++ [x])) - 1), (recs hitC (List.take ((List.length (p ++ [x])) - 1) (p ++ [x])))⟩] := hM17.sub (List.Sublist.cons _ (List.Sublist.cons_cons _ (List.Sublist.cons_cons _ (List.Sublist.refl _))))
  refine GoS.run [2] [.n, .n, .n, .n, .n, .n, .n, .n, .h (v), .n, .n, .n, .n, .n, .n, .h (.int .i64 (((List.length (p ++ [x])) : Nat) : Int)), .h (.int .i64 ((((List.length (p ++ [x])) - 1) : Nat) : Int)), .h (.pointer (some p1)), .h (.agg #[.string (sb ((List.getD (p ++ [x]) ((List.length (p ++ [x])) - 1) hz).key)), .int .i64 ((List.getD (p ++ [x]) ((List.length (p ++ [x])) - 1) hz).score)]), .u (.pointer (some (⟨b4, 0, none⟩))) (w5), .u (undef) (w9), .n, .n, .n, .n, .n, .n, .h (.int .i64 (((List.length (p ++ [x])) : Nat) : Int)), .h (.int .i64 ((((List.length (p ++ [x])) - 1) : Nat) : Int)), .h ((cut v ((List.length (p ++ [x])) - 1))), .n, .u (undef) (w14), .n, .n, .n, .h (.agg #[.string (sb ((List.getD (p ++ [x]) ((List.length (p ++ [x])) - 1) hz).key)), .int .i64 ((List.getD (p ++ [x]) ((List.length (p ++ [x])) - 1) hz).score)]), .n, .n, .n] _ [.code (csub (cd Try.f59) [1,1,1,1,1])] [(2, (.iface 31 (.agg #[.string (sb ((List.getD (p ++ [x]) ((List.length (p ++ [x])) - 1) hz).key)), .int .i64 ((List.getD (p ++ [x]) ((List.length (p ++ [x])) - 1) hz).score)])))] w14 (by kernel_rfl) (.cons o18 (.cons o19 (.cons o20 (.cons o21 (.cons o22 (.cons o23 (.cons o24 (.cons o25 (.cons o26 (.cons o27 (.cons o28 (.cons o29 .nil)))))))))))) ?_
  refine GoS.ret (fn := Try.f59) (v := (.iface 31 (.agg #[.string (sb ((List.getD (p ++ [x]) ((List.length (p ++ [x])) - 1) hz).key)), .int .i64 ((List.getD (p ++ [x]) ((List.length (p ++ [x])) - 1) hz).score)]))) Try.func59 (by kernel_rfl) ?_
  rw [hR]
  have hM31 : Mem S w0 w14 [⟨31, 2, (cut v ((List.length (p ++ [x])) - 1)), ((List.length (p ++ [x])) - 1), (recs hitC (List.take ((List.length (p ++ [x])) - 1) (p ++ [x])))⟩, ⟨43, 3, (obj b), 1, [(cut v ((List.length (p ++ [x])) - 1)), .int .i64 ms, .int .i64 sn]⟩] := hM30.perm ((List.Perm.cons _ (List.Perm.refl _)).trans (List.Perm.swap _ _ _))
  have hM32 : Mem S w0 w14 [⟨43, 3, (obj b), 1, [(cut v ((List.length (p ++ [x])) - 1)), .int .i64 ms, .int .i64 sn]⟩, ⟨31, 2, (cut v ((List.length (p ++ [x])) - 1)), ((List.length (p ++ [x])) - 1), (recs hitC (List.take ((List.length (p ++ [x])) - 1) (p ++ [x])))⟩] := hM31.perm ((List.Perm.cons _ (List.Perm.refl _)).trans (List.Perm.swap _ _ _))
  exact ⟨(cut v ((List.length (p ++ [x])) - 1)), _, rfl, (hM32.sub (List.Sublist.cons_cons _ (List.Sublist.cons_cons _ (List.nil_sublist _)))).cast (by simp)⟩

set_option maxHeartbeats 1000000 in
theorem push_c {S : List Nat} {w0 : World} (b : Nat) (v : Value) (ms sn : Int) (l : List Hit) (x : Hit) (w : World) (hH : Heap l) (hll : l.length ≤ 900000) (hM : Mem S w0 w [⟨43, 3, (obj b), 1, [v, .int .i64 ms, .int .i64 sn]⟩, ⟨31, 2, v, (List.length l), (recs hitC l)⟩]) :
    Calls Try.prog 18 #[(.iface 45 (.pointer (some ⟨b, 0, none⟩))), (.iface 31 (.agg #[.string (sb (x.key)), .int .i64 (x.score)]))] w (fun e w' => ∃ v' l', e = .returned (.tuple #[]) ∧ l'.Perm (l ++ [x]) ∧ Heap l' ∧ Mem S w0 w' [⟨43, 3, (obj b), 1, [v', .int .i64 ms, .int .i64 sn]⟩, ⟨31, 2, v', (List.length (l')), (recs hitC (l'))⟩]) := by
  have hlx : (l ++ [x]).length = l.length + 1 := by simp
  obtain ⟨R, hR⟩ : ∃ R : Ending → World → Prop, R = (fun e w' => ∃ v' l', e = .returned (.tuple #[]) ∧ l'.Perm (l ++ [x]) ∧ Heap l' ∧ Mem S w0 w' [⟨43, 3, (obj b), 1, [v', .int .i64 ms, .int .i64 sn]⟩, ⟨31, 2, v', (List.length (l')), (recs hitC (l'))⟩]) := ⟨_, rfl⟩
  rw [← hR]
  refine GoS.enter (n := 12) Try.func18 (by kernel_rfl) rfl [(0, (.iface 45 (.pointer (some ⟨b, 0, none⟩)))), (1, (.iface 31 (.agg #[.string (sb (x.key)), .int .i64 (x.score)])))] (by kernel_rfl) (by kernel_rfl) ?_
  refine GoS.run [0, 4, 5] [.n, .n, .n, .n] _ [.inRegion (cops (csub (cd Try.f18) [0])) [2], .code (csub (cd Try.f18) [1])] [(0, (.iface 45 (.pointer (some ⟨b, 0, none⟩)))), (4, (.iface 45 (.pointer (some ⟨b, 0, none⟩)))), (5, (.iface 31 (.agg #[.string (sb (x.key)), .int .i64 (x.score)])))] w (by kernel_rfl) .nil ?_
  have oe1 : (execAt (cops (csub (cd Try.f18) [0])) 2 [(0, (.iface 45 (.pointer (some ⟨b, 0, none⟩)))), (4, (.iface 45 (.pointer (some ⟨b, 0, none⟩)))), (5, (.iface 31 (.agg #[.string (sb (x.key)), .int .i64 (x.score)])))]).run Try.prog w = .ok (.enter 60 #[.pointer (some (⟨b, 0, none⟩)), (.iface 31 (.agg #[.string (sb (x.key)), .int .i64 (x.score)]))]) w := by kernel_rfl
  have hM2 : Mem S w0 w [⟨31, 2, v, (List.length l), (recs hitC l)⟩, ⟨43, 3, (obj b), 1, [v, .int .i64 ms, .int .i64 sn]⟩] := hM.perm ((List.Perm.cons _ (List.Perm.refl _)).trans (List.Perm.swap _ _ _))
  have hM3 : Mem S w0 w [⟨43, 3, (obj b), 1, [v, .int .i64 ms, .int .i64 sn]⟩, ⟨31, 2, v, (List.length l), (recs hitC l)⟩] := hM2.perm ((List.Perm.cons _ (List.Perm.refl _)).trans (List.Perm.swap _ _ _))
  refine GoS.callM [0] (cops (csub (cd Try.f18) [0])) 2 [] [.code (csub (cd Try.f18) [1])] 60 #[.pointer (some (⟨b, 0, none⟩)), (.iface 31 (.agg #[.string (sb (x.key)), .int .i64 (x.score)]))] (some 6) [(0, (.iface 45 (.pointer (some ⟨b, 0, none⟩))))] (by kernel_rfl) oe1 (hpush_c b v ms sn l x w (by omega) (Mem.lend (R := [⟨43, 3, (obj b), 1, [v, .int .i64 ms, .int .i64 sn]⟩, ⟨31, 2, v, (List.length l), (recs hitC l)⟩]) (L := []) hM3)) ?_
  rintro _ w4 ⟨v6, rfl, m5⟩
  refine ⟨_, rfl, ?_⟩
  have hM7 : Mem S w0 w4 [⟨43, 3, (obj b), 1, [v6, .int .i64 ms, .int .i64 sn]⟩, ⟨31, 2, v6, (List.length (l ++ [x])), (recs hitC (l ++ [x]))⟩] := Mem.back (R := [⟨43, 3, (obj b), 1, [v, .int .i64 ms, .int .i64 sn]⟩, ⟨31, 2, v, (List.length l), (recs hitC l)⟩]) (L := []) hM3 m5
  refine GoS.run [7, 8] [.n, .n, .n, .n] _ [.inRegion (cops (csub (cd Try.f18) [1])) [2,3,4]] [(7, (.iface 45 (.pointer (some ⟨b, 0, none⟩)))), (8, (.iface 45 (.pointer (some ⟨b, 0, none⟩))))] w4 (by kernel_rfl) .nil ?_
  have o9 : (Instr.loadAt 41 (.pointer (some (⟨b, 0, none⟩)))).run Try.prog w4 = .ok (v6) w4 := c_load pE41 (hM7.rd 0 rfl) (cel_obj b 0) rfl
  have oe10 : (execAt (cops (csub (cd Try.f18) [1])) 2 [(7, (.iface 45 (.pointer (some ⟨b, 0, none⟩)))), (8, (.iface 45 (.pointer (some ⟨b, 0, none⟩))))]).run Try.prog w4 = (callMethod (.iface 45 (.pointer (some (⟨b, 0, none⟩)))) "Len" #[]).run Try.prog w4 := by kernel_rfl
  have oe8 : (execAt (cops (csub (cd Try.f18) [1])) 2 [(7, (.iface 45 (.pointer (some ⟨b, 0, none⟩)))), (8, (.iface 45 (.pointer (some ⟨b, 0, none⟩))))]).run Try.prog w4 = .ok (.enter 57 #[v6]) w4 := oe10.trans (callM_val (elem := 41) (by kernel_rfl) Try.underlying45 Try.func57 (by kernel_rfl) (by kernel_rfl) o9)
  refine GoS.callM [7] (cops (csub (cd Try.f18) [1])) 2 [3,4] [] 57 #[v6] (some 9) [(7, (.iface 45 (.pointer (some ⟨b, 0, none⟩))))] (by kernel_rfl) oe8 (len_c v6 (l ++ [x]) (hM7.rd 1 rfl)) ?_
  rintro _ w11 ⟨rfl, m12⟩
  refine ⟨_, rfl, ?_⟩
  have hM13 := Mem.join hM7 m12
  have o14 : (binOp .sub 3 (.int .i64 (((List.length (l ++ [x])) : Nat) : Int)) (.int .i64 1)).run Try.prog w11 = .ok (.int .i64 ((((List.length (l ++ [x])) - 1) : Nat) : Int)) w11 := f_sub (by rw [show (((List.length (l ++ [x])) : Nat) : Int) - 1 = ((((List.length (l ++ [x])) - 1) : Nat) : Int) by omega]; exact IntWalk.i64_in _ (by omega))
  refine GoS.run [7, 10] [.h (.int .i64 ((((List.length (l ++ [x])) - 1) : Nat) : Int))] _ [.inRegion (cops (csub (cd Try.f18) [1])) [4]] [(7, (.iface 45 (.pointer (some ⟨b, 0, none⟩)))), (10, .int .i64 ((((List.length (l ++ [x])) - 1) : Nat) : Int))] w11 (by kernel_rfl) (.cons o14 .nil) ?_
  have hM15 : Mem S w0 w11 [⟨31, 2, v6, (List.length (l ++ [x])), (recs hitC (l ++ [x]))⟩, ⟨43, 3, (obj b), 1, [v6, .int .i64 ms, .int .i64 sn]⟩] := hM13.perm ((List.Perm.cons _ (List.Perm.refl _)).trans (List.Perm.swap _ _ _))
  have hM16 : Mem S w0 w11 [⟨43, 3, (obj b), 1, [v6, .int .i64 ms, .int .i64 sn]⟩, ⟨31, 2, v6, (List.length (l ++ [x])), (recs hitC (l ++ [x]))⟩] := hM15.perm ((List.Perm.cons _ (List.Perm.refl _)).trans (List.Perm.swap _ _ _))
  refine GoS.call [] 22 #[(.iface 45 (.pointer (some ⟨b, 0, none⟩))), .int .i64 ((((List.length (l ++ [x])) - 1) : Nat) : Int)] (some 11) [.inRegion (cops (csub (cd Try.f18) [1])) []] [] (by kernel_rfl) (up_c b v6 ms sn (l ++ [x]) ((List.length (l ++ [x])) - 1) w11 (upj hH) (by simp) (by simp; omega) (Mem.lend (R := [⟨43, 3, (obj b), 1, [v6, .int .i64 ms, .int .i64 sn]⟩, ⟨31, 2, v6, (List.length (l ++ [x])), (recs hitC (l ++ [x]))⟩]) (L := []) hM16)) ?_
  rintro _ w17 ⟨l19, rfl, hp20, hh21, m18⟩
  refine ⟨_, rfl, ?_⟩
  have hM22 : Mem S w0 w17 [⟨43, 3, (obj b), 1, [v6, .int .i64 ms, .int .i64 sn]⟩, ⟨31, 2, v6, (List.length l19), (recs hitC l19)⟩] := Mem.back (R := [⟨43, 3, (obj b), 1, [v6, .int .i64 ms, .int .i64 sn]⟩, ⟨31, 2, v6, (List.length (l ++ [x])), (recs hitC (l ++ [x]))⟩]) (L := []) hM16 m18
  refine GoS.run [] [.n] _ [] [] w17 (by kernel_rfl) .nil ?_
  refine GoS.fin (fn := Try.f18) (v := (.tuple #[])) Try.func18 (by kernel_rfl) ?_
  rw [hR]
  have hM23 : Mem S w0 w17 [⟨31, 2, v6, (List.length l19), (recs hitC l19)⟩, ⟨43, 3, (obj b), 1, [v6, .int .i64 ms, .int .i64 sn]⟩] := hM22.perm ((List.Perm.cons _ (List.Perm.refl _)).trans (List.Perm.swap _ _ _))
  have hM24 : Mem S w0 w17 [⟨43, 3, (obj b), 1, [v6, .int .i64 ms, .int .i64 sn]⟩, ⟨31, 2, v6, (List.length l19), (recs hitC l19)⟩] := hM23.perm ((List.Perm.cons _ (List.Perm.refl _)).trans (List.Perm.swap _ _ _))
  exact ⟨v6, l19, rfl, hp20, hh21, (hM24.sub (List.Sublist.cons_cons _ (List.Sublist.cons_cons _ (List.nil_sublist _))))⟩

set_option maxHeartbeats 1000000 in
theorem pop_c {S : List Nat} {w0 : World} (b : Nat) (v : Value) (ms sn : Int) (l : List Hit) (w : World) (hH : Heap l) (hn : 0 < l.length) (hll : l.length ≤ 900000) (hM : Mem S w0 w [⟨43, 3, (obj b), 1, [v, .int .i64 ms, .int .i64 sn]⟩, ⟨31, 2, v, (List.length l), (recs hitC l)⟩]) :
    Calls Try.prog 17 #[(.iface 45 (.pointer (some ⟨b, 0, none⟩)))] w (fun e w' => ∃ v' p u, e = .returned u ∧ (p ++ [List.getD l 0 hz]).Perm l ∧ Heap p ∧ Mem S w0 w' [⟨43, 3, (obj b), 1, [v', .int .i64 ms, .int .i64 sn]⟩, ⟨31, 2, v', (List.length p), (recs hitC p)⟩]) := by
  obtain ⟨R, hR⟩ : ∃ R : Ending → World → Prop, R = (fun e w' => ∃ v' p u, e = .returned u ∧ (p ++ [List.getD l 0 hz]).Perm l ∧ Heap p ∧ Mem S w0 w' [⟨43, 3, (obj b), 1, [v', .int .i64 ms, .int .i64 sn]⟩, ⟨31, 2, v', (List.length p), (recs hitC p)⟩]) := ⟨_, rfl⟩
  rw [← hR]
  refine GoS.enter (n := 15) Try.func17 (by kernel_rfl) rfl [(0, (.iface 45 (.pointer (some ⟨b, 0, none⟩))))] (by kernel_rfl) (by kernel_rfl) ?_
  refine GoS.run [0, 4] [.n, .n, .n, .n, .n, .n, .n] _ [.inRegion (cops (csub (cd Try.f17) [1,0])) [1,2,3], .code (csub (cd Try.f17) [1,1])] [(0, (.iface 45 (.pointer (some ⟨b, 0, none⟩)))), (4, (.iface 45 (.pointer (some ⟨b, 0, none⟩))))] w (by kernel_rfl) .nil ?_
  have o2 : (Instr.loadAt 41 (.pointer (some (⟨b, 0, none⟩)))).run Try.prog w = .ok (v) w := c_load pE41 (hM.rd 0 rfl) (cel_obj b 0) rfl
  have oe3 : (execAt (cops (csub (cd Try.f17) [1,0])) 1 [(0, (.iface 45 (.pointer (some ⟨b, 0, none⟩)))), (4, (.iface 45 (.pointer (some ⟨b, 0, none⟩))))]).run Try.prog w = (callMethod (.iface 45 (.pointer (some (⟨b, 0, none⟩)))) "Len" #[]).run Try.prog w := by kernel_rfl
  have oe1 : (execAt (cops (csub (cd Try.f17) [1,0])) 1 [(0, (.iface 45 (.pointer (some ⟨b, 0, none⟩)))), (4, (.iface 45 (.pointer (some ⟨b, 0, none⟩))))]).run Try.prog w = .ok (.enter 57 #[v]) w := oe3.trans (callM_val (elem := 41) (by kernel_rfl) Try.underlying45 Try.func57 (by kernel_rfl) (by kernel_rfl) o2)
  refine GoS.callM [0] (cops (csub (cd Try.f17) [1,0])) 1 [2,3] [.code (csub (cd Try.f17) [1,1])] 57 #[v] (some 5) [(0, (.iface 45 (.pointer (some ⟨b, 0, none⟩))))] (by kernel_rfl) oe1 (len_c v l (hM.rd 1 rfl)) ?_
  rintro _ w4 ⟨rfl, m5⟩
  refine ⟨_, rfl, ?_⟩
  have hM6 := Mem.join hM m5
  have o7 : (binOp .sub 3 (.int .i64 (((List.length l) : Nat) : Int)) (.int .i64 1)).run Try.prog w4 = .ok (.int .i64 ((((List.length l) - 1) : Nat) : Int)) w4 := f_sub (by rw [show (((List.length l) : Nat) : Int) - 1 = ((((List.length l) - 1) : Nat) : Int) by omega]; exact IntWalk.i64_in _ (by omega))
  refine GoS.run [0, 3, 7, 8] [.h (.int .i64 ((((List.length l) - 1) : Nat) : Int)), .n, .n, .n, .n, .n, .n] _ [.inRegion (cops (csub (cd Try.f17) [1,1,0])) [2], .code (csub (cd Try.f17) [1,1,1])] [(0, (.iface 45 (.pointer (some ⟨b, 0, none⟩)))), (3, .int .i64 ((((List.length l) - 1) : Nat) : Int)), (7, (.iface 45 (.pointer (some ⟨b, 0, none⟩)))), (8, .int .i64 ((((List.length l) - 1) : Nat) : Int))] w4 (by kernel_rfl) (.cons o7 .nil) ?_
  have o9 : (Instr.loadAt 41 (.pointer (some (⟨b, 0, none⟩)))).run Try.prog w4 = .ok (v) w4 := c_load pE41 (hM6.rd 0 rfl) (cel_obj b 0) rfl
  have oe10 : (execAt (cops (csub (cd Try.f17) [1,1,0])) 2 [(0, (.iface 45 (.pointer (some ⟨b, 0, none⟩)))), (3, .int .i64 ((((List.length l) - 1) : Nat) : Int)), (7, (.iface 45 (.pointer (some ⟨b, 0, none⟩)))), (8, .int .i64 ((((List.length l) - 1) : Nat) : Int))]).run Try.prog w4 = (callMethod (.iface 45 (.pointer (some (⟨b, 0, none⟩)))) "Swap" #[.int .i64 0, .int .i64 ((((List.length l) - 1) : Nat) : Int)]).run Try.prog w4 := by kernel_rfl
  have oe8 : (execAt (cops (csub (cd Try.f17) [1,1,0])) 2 [(0, (.iface 45 (.pointer (some ⟨b, 0, none⟩)))), (3, .int .i64 ((((List.length l) - 1) : Nat) : Int)), (7, (.iface 45 (.pointer (some ⟨b, 0, none⟩)))), (8, .int .i64 ((((List.length l) - 1) : Nat) : Int))]).run Try.prog w4 = .ok (.enter 61 #[v, .int .i64 0, .int .i64 ((((List.length l) - 1) : Nat) : Int)]) w4 := oe10.trans (callM_val (elem := 41) (by kernel_rfl) Try.underlying45 Try.func61 (by kernel_rfl) (by kernel_rfl) o9)
  have hM11 : Mem S w0 w4 [⟨31, 2, v, (List.length l), (recs hitC l)⟩, ⟨43, 3, (obj b), 1, [v, .int .i64 ms, .int .i64 sn]⟩] := hM6.perm ((List.Perm.cons _ (List.Perm.refl _)).trans (List.Perm.swap _ _ _))
  refine GoS.callM [0, 3] (cops (csub (cd Try.f17) [1,1,0])) 2 [] [.code (csub (cd Try.f17) [1,1,1])] 61 #[v, .int .i64 0, .int .i64 ((((List.length l) - 1) : Nat) : Int)] (some 9) [(0, (.iface 45 (.pointer (some ⟨b, 0, none⟩)))), (3, .int .i64 ((((List.length l) - 1) : Nat) : Int))] (by kernel_rfl) oe8 (swap_c v l 0 ((List.length l) - 1) (by omega) (by omega) w4 (Mem.lend (R := [⟨31, 2, v, (List.length l), (recs hitC l)⟩]) (L := [⟨43, 3, (obj b), 1, [v, .int .i64 ms, .int .i64 sn]⟩]) hM11)) ?_
  rintro _ w12 ⟨rfl, m13⟩
  refine ⟨_, rfl, ?_⟩
  have hM14 : Mem S w0 w12 [⟨31, 2, v, (List.length l), (recs hitC (swapL l 0 ((List.length l) - 1)))⟩, ⟨43, 3, (obj b), 1, [v, .int .i64 ms, .int .i64 sn]⟩] := Mem.back (R := [⟨31, 2, v, (List.length l), (recs hitC l)⟩]) (L := [⟨43, 3, (obj b), 1, [v, .int .i64 ms, .int .i64 sn]⟩]) hM11 m13
  have hM15 : Mem S w0 w12 [⟨31, 2, v, (List.length (swapL l 0 ((List.length l) - 1))), (recs hitC (swapL l 0 ((List.length l) - 1)))⟩, ⟨43, 3, (obj b), 1, [v, .int .i64 ms, .int .i64 sn]⟩] := hM14.cast (by rw [swap_len])
  refine GoS.run [0, 10, 11] [.n, .n, .n, .n, .n] _ [.inRegion (cops (csub (cd Try.f17) [1,1,1,0])) [2], .code (csub (cd Try.f17) [1,1,1,1])] [(0, (.iface 45 (.pointer (some ⟨b, 0, none⟩)))), (10, (.iface 45 (.pointer (some ⟨b, 0, none⟩)))), (11, .int .i64 ((((List.length l) - 1) : Nat) : Int))] w12 (by kernel_rfl) .nil ?_
  have e7 := swap_last (l := l) hn
  have e8 : List.length (List.take (List.length l - 1) (swapL l 0 (List.length l - 1))) = List.length l - 1 := by rw [List.length_take, swap_len]; omega
  have hM16 : Mem S w0 w12 [⟨31, 2, v, (List.length ((List.take (List.length l - 1) (swapL l 0 (List.length l - 1))) ++ [List.getD l 0 hz])), (recs hitC ((List.take (List.length l - 1) (swapL l 0 (List.length l - 1))) ++ [List.getD l 0 hz]))⟩, ⟨43, 3, (obj b), 1, [v, .int .i64 ms, .int .i64 sn]⟩] := hM15.cast (by rw [← e7])
  have hM17 : Mem S w0 w12 [⟨43, 3, (obj b), 1, [v, .int .i64 ms, .int .i64 sn]⟩, ⟨31, 2, v, (List.length ((List.take (List.length l - 1) (swapL l 0 (List.length l - 1))) ++ [List.getD l 0 hz])), (recs hitC ((List.take (List.length l - 1) (swapL l 0 (List.length l - 1))) ++ [List.getD l 0 hz]))⟩] := hM16.perm ((List.Perm.cons _ (List.Perm.refl _)).trans (List.Perm.swap _ _ _))
  refine GoS.call [0] 21 #[(.iface 45 (.pointer (some ⟨b, 0, none⟩))), .int .i64 0, .int .i64 ((((List.length l) - 1) : Nat) : Int)] (some 12) [.inRegion (cops (csub (cd Try.f17) [1,1,1,0])) [], .code (csub (cd Try.f17) [1,1,1,1])] [(0, (.iface 45 (.pointer (some ⟨b, 0, none⟩))))] (by kernel_rfl) ((show Calls Try.prog 21 #[(.iface 45 (.pointer (some ⟨b, 0, none⟩))), .int .i64 0, .int .i64 (((List.length l - 1) : Nat) : Int)] w12 _ by rw [← e8]; exact down_c b v ms sn (List.getD l 0 hz) (List.take (List.length l - 1) (swapL l 0 (List.length l - 1))) w12 (down_start hH hn) (by rw [e8]; omega) (Mem.lend (R := [⟨43, 3, (obj b), 1, [v, .int .i64 ms, .int .i64 sn]⟩, ⟨31, 2, v, (List.length ((List.take (List.length l - 1) (swapL l 0 (List.length l - 1))) ++ [List.getD l 0 hz])), (recs hitC ((List.take (List.length l - 1) (swapL l 0 (List.length l - 1))) ++ [List.getD l 0 hz]))⟩]) (L := []) hM17))) ?_
  rintro _ w18 ⟨p20, bb21, rfl, hp22, hh23, m19⟩
  refine ⟨_, rfl, ?_⟩
  have hM24 : Mem S w0 w18 [⟨43, 3, (obj b), 1, [v, .int .i64 ms, .int .i64 sn]⟩, ⟨31, 2, v, (List.length (p20 ++ [List.getD l 0 hz])), (recs hitC (p20 ++ [List.getD l 0 hz]))⟩] := Mem.back (R := [⟨43, 3, (obj b), 1, [v, .int .i64 ms, .int .i64 sn]⟩, ⟨31, 2, v, (List.length ((List.take (List.length l - 1) (swapL l 0 (List.length l - 1))) ++ [List.getD l 0 hz])), (recs hitC ((List.take (List.length l - 1) (swapL l 0 (List.length l - 1))) ++ [List.getD l 0 hz]))⟩]) (L := []) hM17 m19
  have hpl25 := hp22.length_eq
  refine GoS.run [13] [.n, .n, .n, .n] _ [.inRegion (cops (csub (cd Try.f17) [1,1,1,1,0])) [1,2], .code (csub (cd Try.f17) [1,1,1,1,1])] [(13, (.iface 45 (.pointer (some ⟨b, 0, none⟩))))] w18 (by kernel_rfl) .nil ?_
  have oe26 : (execAt (cops (csub (cd Try.f17) [1,1,1,1,0])) 1 [(13, (.iface 45 (.pointer (some ⟨b, 0, none⟩))))]).run Try.prog w18 = .ok (.enter 59 #[.pointer (some (⟨b, 0, none⟩))]) w18 := by kernel_rfl
  have hM27 : Mem S w0 w18 [⟨31, 2, v, (List.length (p20 ++ [List.getD l 0 hz])), (recs hitC (p20 ++ [List.getD l 0 hz]))⟩, ⟨43, 3, (obj b), 1, [v, .int .i64 ms, .int .i64 sn]⟩] := hM24.perm ((List.Perm.cons _ (List.Perm.refl _)).trans (List.Perm.swap _ _ _))
  have hM28 : Mem S w0 w18 [⟨43, 3, (obj b), 1, [v, .int .i64 ms, .int .i64 sn]⟩, ⟨31, 2, v, (List.length (p20 ++ [List.getD l 0 hz])), (recs hitC (p20 ++ [List.getD l 0 hz]))⟩] := hM27.perm ((List.Perm.cons _ (List.Perm.refl _)).trans (List.Perm.swap _ _ _))
  refine GoS.callM [] (cops (csub (cd Try.f17) [1,1,1,1,0])) 1 [2] [.code (csub (cd Try.f17) [1,1,1,1,1])] 59 #[.pointer (some (⟨b, 0, none⟩))] (some 14) [] (by kernel_rfl) oe26 (hpop_c b v ms sn p20 (List.getD l 0 hz) w18 (by omega) (Mem.lend (R := [⟨43, 3, (obj b), 1, [v, .int .i64 ms, .int .i64 sn]⟩, ⟨31, 2, v, (List.length (p20 ++ [List.getD l 0 hz])), (recs hitC (p20 ++ [List.getD l 0 hz]))⟩]) (L := []) hM28)) ?_
  rintro _ w29 ⟨v31, u32, rfl, m30⟩
  refine ⟨_, rfl, ?_⟩
  have hM33 : Mem S w0 w29 [⟨43, 3, (obj b), 1, [v31, .int .i64 ms, .int .i64 sn]⟩, ⟨31, 2, v31, (List.length p20), (recs hitC p20)⟩] := Mem.back (R := [⟨43, 3, (obj b), 1, [v, .int .i64 ms, .int .i64 sn]⟩, ⟨31, 2, v, (List.length (p20 ++ [List.getD l 0 hz])), (recs hitC (p20 ++ [List.getD l 0 hz]))⟩]) (L := []) hM28 m30
  refine GoS.run [2] [.n, .n] _ [.code (csub (cd Try.f17) [1,1,1,1,1])] [(2, u32)] w29 (by kernel_rfl) .nil ?_
  refine GoS.ret (fn := Try.f17) (v := u32) Try.func17 (by kernel_rfl) ?_
  rw [hR]
  have hM34 : Mem S w0 w29 [⟨31, 2, v31, (List.length p20), (recs hitC p20)⟩, ⟨43, 3, (obj b), 1, [v31, .int .i64 ms, .int .i64 sn]⟩] := hM33.perm ((List.Perm.cons _ (List.Perm.refl _)).trans (List.Perm.swap _ _ _))
  have hM35 : Mem S w0 w29 [⟨43, 3, (obj b), 1, [v31, .int .i64 ms, .int .i64 sn]⟩, ⟨31, 2, v31, (List.length p20), (recs hitC p20)⟩] := hM34.perm ((List.Perm.cons _ (List.Perm.refl _)).trans (List.Perm.swap _ _ _))
  refine ⟨v31, p20, _, rfl, ?_, hh23, (hM35.sub (List.Sublist.cons_cons _ (List.Sublist.cons_cons _ (List.nil_sublist _))))⟩
  have q1 := (hp22.append_right [List.getD l 0 hz])
  rw [← e7] at q1
  exact q1.trans (swap_perm (by omega) (by omega))


end Go.Proofs.Ytbammppeneoffaa
