/-
  The walks of Len, Less, Swap.
-/
import Derived.Test.YtbammppeneoffaaTopA
namespace Go.Proofs.Ytbammppeneoffaa
open Go Go.Gw Go.HitP Go.RowKit
set_option linter.unusedVariables false
set_option linter.unusedSimpArgs false

theorem sT41 : SliceT Try.prog 41 31 2 24 (.agg #[.string (sb ([])), .int .i64 0]) := ⟨by kernel_rfl, ⟨_, rfl, by kernel_rfl, by kernel_rfl, by kernel_rfl⟩, rfl, by decide⟩
theorem aE31 : Agged Try.prog 31 2 := ⟨⟨_, Try.underlying31, .inl ⟨_, rfl⟩⟩, _, rfl, by kernel_rfl⟩

set_option maxHeartbeats 400000 in
theorem len_c {w : World} (v : Value) (l : List Hit) (hv : Rd w 2 v l.length (recs hitC l)) :
    Calls Try.prog 57 #[v] w (fun e w' => e = .returned (.int .i64 ((List.length l : Nat) : Int)) ∧ Mem [] w w' []) := by
  obtain ⟨R, hR⟩ : ∃ R : Ending → World → Prop, R = (fun e w' => e = .returned (.int .i64 ((List.length l : Nat) : Int)) ∧ Mem [] w w' []) := ⟨_, rfl⟩
  rw [← hR]
  refine GoS.enter (n := 5) Try.func57 (by kernel_rfl) rfl [(0, v)] (by kernel_rfl) (by kernel_rfl) ?_
  have hM0 := Mem.start w
  have o1 : (Builtin.len_ #[41] 3 #[v]).run Try.prog w = .ok (.int .i64 (((List.length l) : Nat) : Int)) w := f_slen sT41 (hv.kept0 hM0.kept) 3 _
  refine GoS.run [2] [.n, .n, .n, .n, .n, .n, .n, .h (.int .i64 (((List.length l) : Nat) : Int)), .n, .n] _ [.code (csub (cd Try.f57) [1,1])] [(2, .int .i64 (((List.length l) : Nat) : Int))] w (by kernel_rfl) (.cons o1 .nil) ?_
  refine GoS.ret (fn := Try.f57) (v := (.int .i64 (((List.length l) : Nat) : Int))) Try.func57 (by kernel_rfl) ?_
  rw [hR]
  exact ⟨rfl, hM0⟩

set_option maxHeartbeats 400000 in
theorem less_c {w : World} (v : Value) (l : List Hit) (hv : Rd w 2 v l.length (recs hitC l)) (i j : Nat) (hi : i < l.length) (hj : j < l.length) :
    Calls Try.prog 58 #[v, .int .i64 ((i : Nat) : Int), .int .i64 ((j : Nat) : Int)] w (fun e w' => e = .returned (.bool (lt2 l j i)) ∧ Mem [] w w' []) := by
  have hll := rd_len hv
  simp only [maxLen] at hll
  obtain ⟨R, hR⟩ : ∃ R : Ending → World → Prop, R = (fun e w' => e = .returned (.bool (lt2 l j i)) ∧ Mem [] w w' []) := ⟨_, rfl⟩
  rw [← hR]
  refine GoS.enter (n := 16) Try.func58 (by kernel_rfl) rfl [(0, v), (1, .int .i64 ((i : Nat) : Int)), (2, .int .i64 ((j : Nat) : Int))] (by kernel_rfl) (by kernel_rfl) ?_
  have hM0 := Mem.start w
  refine GoS.run [0, 1, 2] [.n, .n, .n, .n, .n] _ [.code (csub (cd Try.f58) [1,0]), .code (csub (cd Try.f58) [1,1])] [(0, v), (1, .int .i64 ((i : Nat) : Int)), (2, .int .i64 ((j : Nat) : Int))] w (by kernel_rfl) .nil ?_
  obtain ⟨p1, hp2, hq3⟩ := rd_at (i := ((j : Nat) : Int)) sT41 (hv.kept0 hM0.kept) j (by omega) (by first | omega | (dsimp only; omega))
  obtain ⟨p4, hp5, hq6⟩ := rd_at (i := ((i : Nat) : Int)) sT41 (hv.kept0 hM0.kept) i (by omega) (by first | omega | (dsimp only; omega))
  refine GoS.drawC (fun W_ => Kept [] w W_) 1 (by kernel_rfl) [6] [.u (v) w, .u (.int .i64 ((j : Nat) : Int)) w, .h (.pointer (some p1)), .h (.agg #[.string (sb ((List.getD l j hz).key)), .int .i64 ((List.getD l j hz).score)]), .u (v) w, .u (.int .i64 ((i : Nat) : Int)) w, .h (.pointer (some p4)), .h (.agg #[.string (sb ((List.getD l i hz).key)), .int .i64 ((List.getD l i hz).score)]), .h (.bool (better (List.getD l j hz) (List.getD l i hz))), .u (.bool (better (List.getD l j hz) (List.getD l i hz))) w] (fun W_ => [(Instr.indexAt 41 (v) (.int .i64 ((j : Nat) : Int))).run Try.prog W_ = .ok (.pointer (some p1)) W_, (Instr.loadAt 31 (.pointer (some p1))).run Try.prog W_ = .ok (.agg #[.string (sb ((List.getD l j hz).key)), .int .i64 ((List.getD l j hz).score)]) W_, (Instr.indexAt 41 (v) (.int .i64 ((i : Nat) : Int))).run Try.prog W_ = .ok (.pointer (some p4)) W_, (Instr.loadAt 31 (.pointer (some p4))).run Try.prog W_ = .ok (.agg #[.string (sb ((List.getD l i hz).key)), .int .i64 ((List.getD l i hz).score)]) W_, (W_ = W_) ∧ Calls Try.prog 16 #[.agg #[.string (sb ((List.getD l j hz).key)), .int .i64 ((List.getD l j hz).score)], .agg #[.string (sb ((List.getD l i hz).key)), .int .i64 ((List.getD l i hz).score)]] W_ (fun e W2 => e = .returned (.bool (better (List.getD l j hz) (List.getD l i hz))) ∧ (fun W_ => Kept [] w W_) W2)]) [(v, v), (.int .i64 ((j : Nat) : Int), .int .i64 ((j : Nat) : Int)), (v, v), (.int .i64 ((i : Nat) : Int), .int .i64 ((i : Nat) : Int)), (.bool (better (List.getD l j hz) (List.getD l i hz)), .bool (better (List.getD l j hz) (List.getD l i hz)))] [(6, .bool (better (List.getD l j hz) (List.getD l i hz)))] (by kernel_rfl) (by kernel_rfl) ([(6, .bool (better (List.getD l j hz) (List.getD l i hz))), (15, .bool (better (List.getD l j hz) (List.getD l i hz))), (14, .agg #[.string (sb ((List.getD l i hz).key)), .int .i64 ((List.getD l i hz).score)]), (13, .pointer (some p4)), (12, .int .i64 ((i : Nat) : Int)), (11, v), (10, .agg #[.string (sb ((List.getD l j hz).key)), .int .i64 ((List.getD l j hz).score)]), (9, .pointer (some p1)), (8, .int .i64 ((j : Nat) : Int)), (7, v)] ++ [(0, v), (1, .int .i64 ((i : Nat) : Int)), (2, .int .i64 ((j : Nat) : Int))]) (fun W_ => by kernel_rfl) (by kernel_rfl) (.cons rfl (.cons rfl (.cons rfl (.cons rfl (.cons rfl Obs.nil))))) (Kept.drewN _ _ 1) (fun W_ hW_ => (.cons (hq3 _ _) (.cons (r_loads (f := hitC) (l := l) aE31 ((hv.kept0 hM0.kept).kept0 hW_) hitC_len hp2 (by first | omega | (dsimp only; omega)) hz) (.cons (hq6 _ _) (.cons (r_loads (f := hitC) (l := l) aE31 ((hv.kept0 hM0.kept).kept0 hW_) hitC_len hp5 (by first | omega | (dsimp only; omega)) hz) (.cons (⟨rfl, Calls.mono (better_c (List.getD l j hz) (List.getD l i hz) W_) (fun e W2 h => ⟨h.1, Kept.trans hW_ h.2.kept⟩)⟩) Obs.nil)))))) (fun w7 hw8 => ?_)
  have hM9 := hM0.ext hw8
  refine GoS.ret (fn := Try.f58) (v := (.bool (better (List.getD l j hz) (List.getD l i hz)))) Try.func58 (by kernel_rfl) ?_
  rw [hR]
  exact ⟨rfl, hM9⟩

set_option maxHeartbeats 400000 in
theorem swap_c {S : List Nat} {w0 : World} (v : Value) (l : List Hit) (i j : Nat) (hi : i < l.length) (hj : j < l.length) (w : World) (hM : Mem S w0 w [⟨31, 2, v, (List.length l), (recs hitC l)⟩]) :
    Calls Try.prog 61 #[v, .int .i64 ((i : Nat) : Int), .int .i64 ((j : Nat) : Int)] w (fun e w' => e = .returned (.tuple #[]) ∧ Mem S w0 w' [⟨31, 2, v, (List.length l), (recs hitC (swapL l i j))⟩]) := by
  have hll := rd_len (hM.rd 0 rfl)
  simp only [maxLen] at hll
  obtain ⟨R, hR⟩ : ∃ R : Ending → World → Prop, R = (fun e w' => e = .returned (.tuple #[]) ∧ Mem S w0 w' [⟨31, 2, v, (List.length l), (recs hitC (swapL l i j))⟩]) := ⟨_, rfl⟩
  rw [← hR]
  refine GoS.enter (n := 20) Try.func61 (by kernel_rfl) rfl [(0, v), (1, .int .i64 ((i : Nat) : Int)), (2, .int .i64 ((j : Nat) : Int))] (by kernel_rfl) (by kernel_rfl) ?_
  obtain ⟨w1, hw2⟩ : ∃ w_, (w).drewN 1 = w_ := ⟨_, rfl⟩
  refine GoS.held (fun W_ => Mem S w0 W_ []) [] 0 (by kernel_rfl) (by kernel_rfl) 16 (by kernel_rfl) ?_
  rw [hw2]
  have hM3 : Mem S w0 w1 [⟨31, 2, v, (List.length l), (recs hitC l)⟩] := hw2 ▸ hM.ext (Kept.drewN _ _ 1)
  have hS4 : Mem S w0 w1 [] := hM3.sub (List.Sublist.cons _ (List.Sublist.refl _))
  refine GoH.takeV 0 (v) (v) (some 6) (fun W_ => by kernel_rfl) rfl hS4 ?_
  refine GoH.takeV 1 (.int .i64 ((i : Nat) : Int)) (.int .i64 ((i : Nat) : Int)) (some 7) (fun W_ => by kernel_rfl) rfl hS4 ?_
  refine GoH.takeV 2 (v) (v) (some 8) (fun W_ => by kernel_rfl) rfl hS4 ?_
  refine GoH.takeV 3 (.int .i64 ((j : Nat) : Int)) (.int .i64 ((j : Nat) : Int)) (some 9) (fun W_ => by kernel_rfl) rfl hS4 ?_
  refine GoH.takeV 4 (v) (v) (some 10) (fun W_ => by kernel_rfl) rfl hS4 ?_
  refine GoH.takeV 5 (.int .i64 ((j : Nat) : Int)) (.int .i64 ((j : Nat) : Int)) (some 11) (fun W_ => by kernel_rfl) rfl hS4 ?_
  refine GoH.takeV 8 (v) (v) (some 14) (fun W_ => by kernel_rfl) rfl hS4 ?_
  refine GoH.takeV 9 (.int .i64 ((i : Nat) : Int)) (.int .i64 ((i : Nat) : Int)) (some 15) (fun W_ => by kernel_rfl) rfl hS4 ?_
  have J151 : ∀ (w149 : World), Mem S w0 w149 [⟨31, 2, v, (List.length l), (recs hitC (List.set (List.set l i (Hit.mk ((List.getD l j hz).key) ((List.getD l j hz).score))) j (Hit.mk ((List.getD l i hz).key) ((List.getD l i hz).score))))⟩] → GoS Try.prog 61 R 20 [] [] w149 := by
    intro w149 hM150
    refine GoS.fin (fn := Try.f61) (v := (.tuple #[])) Try.func61 (by kernel_rfl) ?_
    rw [hR]
    exact ⟨rfl, hM150.cast rfl⟩
  refine GoH.each [6, 10] (by kernel_rfl) (by kernel_rfl) ⟨?_, ?_, trivial⟩
  ·
    obtain ⟨p5, hp6, hq7⟩ := rd_at (i := ((j : Nat) : Int)) sT41 (hM3.rd 0 rfl) j (by omega) (by first | omega | (simp only [List.length_set]; omega) | ((try dsimp only); simp only [List.length_set]; omega))
    have hS8 : Mem S w0 w1 [] := hM3.sub (List.Sublist.cons _ (List.Sublist.refl _))
    refine GoI.stepF 6 (.pointer (some p5)) (w1) ((Instr.indexAt 41 (v) (.int .i64 ((j : Nat) : Int))).run Try.prog w1 = .ok (.pointer (some p5)) w1) (some 12) (by kernel_rfl) (hq7 _ _) (.inr hS8) ?_
    refine GoH.each [7, 10] (by kernel_rfl) (by kernel_rfl) ⟨?_, ?_, trivial⟩
    ·
      have hS9 : Mem S w0 w1 [] := hM3.sub (List.Sublist.cons _ (List.Sublist.refl _))
      refine GoI.stepF 7 (.agg #[.string (sb ((List.getD l j hz).key)), .int .i64 ((List.getD l j hz).score)]) (w1) ((Instr.loadAt 31 (.pointer (some p5))).run Try.prog w1 = .ok (.agg #[.string (sb ((List.getD l j hz).key)), .int .i64 ((List.getD l j hz).score)]) w1) (some 13) (by kernel_rfl) (r_loads (f := hitC) (l := l) aE31 (hM3.rd 0 rfl) hitC_len hp6 (by first | omega | (simp only [List.length_set]; omega) | ((try dsimp only); simp only [List.length_set]; omega)) hz) (.inr hS9) ?_
      obtain ⟨p10, hp11, hq12⟩ := rd_at (i := ((i : Nat) : Int)) sT41 (hM3.rd 0 rfl) i (by omega) (by first | omega | (simp only [List.length_set]; omega) | ((try dsimp only); simp only [List.length_set]; omega))
      have hS13 : Mem S w0 w1 [] := hM3.sub (List.Sublist.cons _ (List.Sublist.refl _))
      refine GoH.stepF 10 (.pointer (some p10)) (w1) ((Instr.indexAt 41 (v) (.int .i64 ((i : Nat) : Int))).run Try.prog w1 = .ok (.pointer (some p10)) w1) (some 16) (by kernel_rfl) (hq12 _ _) (.inr hS13) ?_
      have hS14 : Mem S w0 w1 [] := hM3.sub (List.Sublist.cons _ (List.Sublist.refl _))
      refine GoH.stepF 11 (.agg #[.string (sb ((List.getD l i hz).key)), .int .i64 ((List.getD l i hz).score)]) (w1) ((Instr.loadAt 31 (.pointer (some p10))).run Try.prog w1 = .ok (.agg #[.string (sb ((List.getD l i hz).key)), .int .i64 ((List.getD l i hz).score)]) w1) (some 17) (by kernel_rfl) (r_loads (f := hitC) (l := l) aE31 (hM3.rd 0 rfl) hitC_len hp11 (by first | omega | (simp only [List.length_set]; omega) | ((try dsimp only); simp only [List.length_set]; omega)) hz) (.inr hS14) ?_
      obtain ⟨p15, hp16, hq17⟩ := rd_at (i := ((i : Nat) : Int)) sT41 (hM3.rd 0 rfl) i (by omega) (by first | omega | (simp only [List.length_set]; omega) | ((try dsimp only); simp only [List.length_set]; omega))
      have hS18 : Mem S w0 w1 [] := hM3.sub (List.Sublist.cons _ (List.Sublist.refl _))
      refine GoH.stepF 12 (.pointer (some p15)) (w1) ((Instr.indexAt 41 (v) (.int .i64 ((i : Nat) : Int))).run Try.prog w1 = .ok (.pointer (some p15)) w1) (some 18) (by kernel_rfl) (hq17 _ _) (.inr hS18) ?_
      obtain ⟨w19, hr20, hM21⟩ := r_stores (f := hitC) (l := l) aE31 hM3 0 rfl hitC_len hp16 (by first | omega | (simp only [List.length_set]; omega) | ((try dsimp only); simp only [List.length_set]; omega)) (Hit.mk ((List.getD l j hz).key) ((List.getD l j hz).score)) (hitC_one _)
      have hM22 : Mem S w0 w19 [⟨31, 2, v, (List.length l), (recs hitC (List.set l i (Hit.mk ((List.getD l j hz).key) ((List.getD l j hz).score))))⟩] := hM21.cast (by simp)
      have hS23 : Mem S w0 w19 [] := hM22.sub (List.Sublist.cons _ (List.Sublist.refl _))
      refine GoH.stepF 13 (undef) (w19) ((Instr.storeAt 31 (.pointer (some p15)) (.agg #[.string (sb ((List.getD l j hz).key)), .int .i64 ((List.getD l j hz).score)])).run Try.prog w1 = .ok () w19 ∧ undef = undef) none (by kernel_rfl) (⟨hr20, rfl⟩) (.inr hS23) ?_
      obtain ⟨p24, hp25, hq26⟩ := rd_at (i := ((j : Nat) : Int)) sT41 (hM22.rd 0 rfl) j (by omega) (by first | omega | (simp only [List.length_set]; omega) | ((try dsimp only); simp only [List.length_set]; omega))
      have hS27 : Mem S w0 w19 [] := hM22.sub (List.Sublist.cons _ (List.Sublist.refl _))
      refine GoH.stepF 14 (.pointer (some p24)) (w19) ((Instr.indexAt 41 (v) (.int .i64 ((j : Nat) : Int))).run Try.prog w19 = .ok (.pointer (some p24)) w19) (some 19) (by kernel_rfl) (hq26 _ _) (.inr hS27) ?_
      obtain ⟨w28, hr29, hM30⟩ := r_stores (f := hitC) (l := (List.set l i (Hit.mk ((List.getD l j hz).key) ((List.getD l j hz).score)))) aE31 hM22 0 rfl hitC_len hp25 (by first | omega | (simp only [List.length_set]; omega) | ((try dsimp only); simp only [List.length_set]; omega)) (Hit.mk ((List.getD l i hz).key) ((List.getD l i hz).score)) (hitC_one _)
      have hM31 : Mem S w0 w28 [⟨31, 2, v, (List.length l), (recs hitC (List.set (List.set l i (Hit.mk ((List.getD l j hz).key) ((List.getD l j hz).score))) j (Hit.mk ((List.getD l i hz).key) ((List.getD l i hz).score))))⟩] := hM30.cast (by simp)
      have hS32 : Mem S w0 w28 [] := hM31.sub (List.Sublist.cons _ (List.Sublist.refl _))
      refine GoH.stepF 15 (undef) (w28) ((Instr.storeAt 31 (.pointer (some p24)) (.agg #[.string (sb ((List.getD l i hz).key)), .int .i64 ((List.getD l i hz).score)])).run Try.prog w19 = .ok () w28 ∧ undef = undef) none (by kernel_rfl) (⟨hr29, rfl⟩) (.inr hS32) ?_
      refine GoH.done [] [] (by kernel_rfl) (by kernel_rfl) ?_
      exact J151 _ hM31
    ·
      obtain ⟨p33, hp34, hq35⟩ := rd_at (i := ((i : Nat) : Int)) sT41 (hM3.rd 0 rfl) i (by omega) (by first | omega | (simp only [List.length_set]; omega) | ((try dsimp only); simp only [List.length_set]; omega))
      have hS36 : Mem S w0 w1 [] := hM3.sub (List.Sublist.cons _ (List.Sublist.refl _))
      refine GoI.stepF 10 (.pointer (some p33)) (w1) ((Instr.indexAt 41 (v) (.int .i64 ((i : Nat) : Int))).run Try.prog w1 = .ok (.pointer (some p33)) w1) (some 16) (by kernel_rfl) (hq35 _ _) (.inr hS36) ?_
      refine GoH.each [7, 11] (by kernel_rfl) (by kernel_rfl) ⟨?_, ?_, trivial⟩
      ·
        have hS37 : Mem S w0 w1 [] := hM3.sub (List.Sublist.cons _ (List.Sublist.refl _))
        refine GoI.stepF 7 (.agg #[.string (sb ((List.getD l j hz).key)), .int .i64 ((List.getD l j hz).score)]) (w1) ((Instr.loadAt 31 (.pointer (some p5))).run Try.prog w1 = .ok (.agg #[.string (sb ((List.getD l j hz).key)), .int .i64 ((List.getD l j hz).score)]) w1) (some 13) (by kernel_rfl) (r_loads (f := hitC) (l := l) aE31 (hM3.rd 0 rfl) hitC_len hp6 (by first | omega | (simp only [List.length_set]; omega) | ((try dsimp only); simp only [List.length_set]; omega)) hz) (.inr hS37) ?_
        have hS38 : Mem S w0 w1 [] := hM3.sub (List.Sublist.cons _ (List.Sublist.refl _))
        refine GoH.stepF 11 (.agg #[.string (sb ((List.getD l i hz).key)), .int .i64 ((List.getD l i hz).score)]) (w1) ((Instr.loadAt 31 (.pointer (some p33))).run Try.prog w1 = .ok (.agg #[.string (sb ((List.getD l i hz).key)), .int .i64 ((List.getD l i hz).score)]) w1) (some 17) (by kernel_rfl) (r_loads (f := hitC) (l := l) aE31 (hM3.rd 0 rfl) hitC_len hp34 (by first | omega | (simp only [List.length_set]; omega) | ((try dsimp only); simp only [List.length_set]; omega)) hz) (.inr hS38) ?_
        obtain ⟨p39, hp40, hq41⟩ := rd_at (i := ((i : Nat) : Int)) sT41 (hM3.rd 0 rfl) i (by omega) (by first | omega | (simp only [List.length_set]; omega) | ((try dsimp only); simp only [List.length_set]; omega))
        have hS42 : Mem S w0 w1 [] := hM3.sub (List.Sublist.cons _ (List.Sublist.refl _))
        refine GoH.stepF 12 (.pointer (some p39)) (w1) ((Instr.indexAt 41 (v) (.int .i64 ((i : Nat) : Int))).run Try.prog w1 = .ok (.pointer (some p39)) w1) (some 18) (by kernel_rfl) (hq41 _ _) (.inr hS42) ?_
        obtain ⟨w43, hr44, hM45⟩ := r_stores (f := hitC) (l := l) aE31 hM3 0 rfl hitC_len hp40 (by first | omega | (simp only [List.length_set]; omega) | ((try dsimp only); simp only [List.length_set]; omega)) (Hit.mk ((List.getD l j hz).key) ((List.getD l j hz).score)) (hitC_one _)
        have hM46 : Mem S w0 w43 [⟨31, 2, v, (List.length l), (recs hitC (List.set l i (Hit.mk ((List.getD l j hz).key) ((List.getD l j hz).score))))⟩] := hM45.cast (by simp)
        have hS47 : Mem S w0 w43 [] := hM46.sub (List.Sublist.cons _ (List.Sublist.refl _))
        refine GoH.stepF 13 (undef) (w43) ((Instr.storeAt 31 (.pointer (some p39)) (.agg #[.string (sb ((List.getD l j hz).key)), .int .i64 ((List.getD l j hz).score)])).run Try.prog w1 = .ok () w43 ∧ undef = undef) none (by kernel_rfl) (⟨hr44, rfl⟩) (.inr hS47) ?_
        obtain ⟨p48, hp49, hq50⟩ := rd_at (i := ((j : Nat) : Int)) sT41 (hM46.rd 0 rfl) j (by omega) (by first | omega | (simp only [List.length_set]; omega) | ((try dsimp only); simp only [List.length_set]; omega))
        have hS51 : Mem S w0 w43 [] := hM46.sub (List.Sublist.cons _ (List.Sublist.refl _))
        refine GoH.stepF 14 (.pointer (some p48)) (w43) ((Instr.indexAt 41 (v) (.int .i64 ((j : Nat) : Int))).run Try.prog w43 = .ok (.pointer (some p48)) w43) (some 19) (by kernel_rfl) (hq50 _ _) (.inr hS51) ?_
        obtain ⟨w52, hr53, hM54⟩ := r_stores (f := hitC) (l := (List.set l i (Hit.mk ((List.getD l j hz).key) ((List.getD l j hz).score)))) aE31 hM46 0 rfl hitC_len hp49 (by first | omega | (simp only [List.length_set]; omega) | ((try dsimp only); simp only [List.length_set]; omega)) (Hit.mk ((List.getD l i hz).key) ((List.getD l i hz).score)) (hitC_one _)
        have hM55 : Mem S w0 w52 [⟨31, 2, v, (List.length l), (recs hitC (List.set (List.set l i (Hit.mk ((List.getD l j hz).key) ((List.getD l j hz).score))) j (Hit.mk ((List.getD l i hz).key) ((List.getD l i hz).score))))⟩] := hM54.cast (by simp)
        have hS56 : Mem S w0 w52 [] := hM55.sub (List.Sublist.cons _ (List.Sublist.refl _))
        refine GoH.stepF 15 (undef) (w52) ((Instr.storeAt 31 (.pointer (some p48)) (.agg #[.string (sb ((List.getD l i hz).key)), .int .i64 ((List.getD l i hz).score)])).run Try.prog w43 = .ok () w52 ∧ undef = undef) none (by kernel_rfl) (⟨hr53, rfl⟩) (.inr hS56) ?_
        refine GoH.done [] [] (by kernel_rfl) (by kernel_rfl) ?_
        exact J151 _ hM55
      ·
        have hS57 : Mem S w0 w1 [] := hM3.sub (List.Sublist.cons _ (List.Sublist.refl _))
        refine GoI.stepF 11 (.agg #[.string (sb ((List.getD l i hz).key)), .int .i64 ((List.getD l i hz).score)]) (w1) ((Instr.loadAt 31 (.pointer (some p33))).run Try.prog w1 = .ok (.agg #[.string (sb ((List.getD l i hz).key)), .int .i64 ((List.getD l i hz).score)]) w1) (some 17) (by kernel_rfl) (r_loads (f := hitC) (l := l) aE31 (hM3.rd 0 rfl) hitC_len hp34 (by first | omega | (simp only [List.length_set]; omega) | ((try dsimp only); simp only [List.length_set]; omega)) hz) (.inr hS57) ?_
        have hS58 : Mem S w0 w1 [] := hM3.sub (List.Sublist.cons _ (List.Sublist.refl _))
        refine GoH.stepF 7 (.agg #[.string (sb ((List.getD l j hz).key)), .int .i64 ((List.getD l j hz).score)]) (w1) ((Instr.loadAt 31 (.pointer (some p5))).run Try.prog w1 = .ok (.agg #[.string (sb ((List.getD l j hz).key)), .int .i64 ((List.getD l j hz).score)]) w1) (some 13) (by kernel_rfl) (r_loads (f := hitC) (l := l) aE31 (hM3.rd 0 rfl) hitC_len hp6 (by first | omega | (simp only [List.length_set]; omega) | ((try dsimp only); simp only [List.length_set]; omega)) hz) (.inr hS58) ?_
        obtain ⟨p59, hp60, hq61⟩ := rd_at (i := ((i : Nat) : Int)) sT41 (hM3.rd 0 rfl) i (by omega) (by first | omega | (simp only [List.length_set]; omega) | ((try dsimp only); simp only [List.length_set]; omega))
        have hS62 : Mem S w0 w1 [] := hM3.sub (List.Sublist.cons _ (List.Sublist.refl _))
        refine GoH.stepF 12 (.pointer (some p59)) (w1) ((Instr.indexAt 41 (v) (.int .i64 ((i : Nat) : Int))).run Try.prog w1 = .ok (.pointer (some p59)) w1) (some 18) (by kernel_rfl) (hq61 _ _) (.inr hS62) ?_
        obtain ⟨w63, hr64, hM65⟩ := r_stores (f := hitC) (l := l) aE31 hM3 0 rfl hitC_len hp60 (by first | omega | (simp only [List.length_set]; omega) | ((try dsimp only); simp only [List.length_set]; omega)) (Hit.mk ((List.getD l j hz).key) ((List.getD l j hz).score)) (hitC_one _)
        have hM66 : Mem S w0 w63 [⟨31, 2, v, (List.length l), (recs hitC (List.set l i (Hit.mk ((List.getD l j hz).key) ((List.getD l j hz).score))))⟩] := hM65.cast (by simp)
        have hS67 : Mem S w0 w63 [] := hM66.sub (List.Sublist.cons _ (List.Sublist.refl _))
        refine GoH.stepF 13 (undef) (w63) ((Instr.storeAt 31 (.pointer (some p59)) (.agg #[.string (sb ((List.getD l j hz).key)), .int .i64 ((List.getD l j hz).score)])).run Try.prog w1 = .ok () w63 ∧ undef = undef) none (by kernel_rfl) (⟨hr64, rfl⟩) (.inr hS67) ?_
        obtain ⟨p68, hp69, hq70⟩ := rd_at (i := ((j : Nat) : Int)) sT41 (hM66.rd 0 rfl) j (by omega) (by first | omega | (simp only [List.length_set]; omega) | ((try dsimp only); simp only [List.length_set]; omega))
        have hS71 : Mem S w0 w63 [] := hM66.sub (List.Sublist.cons _ (List.Sublist.refl _))
        refine GoH.stepF 14 (.pointer (some p68)) (w63) ((Instr.indexAt 41 (v) (.int .i64 ((j : Nat) : Int))).run Try.prog w63 = .ok (.pointer (some p68)) w63) (some 19) (by kernel_rfl) (hq70 _ _) (.inr hS71) ?_
        obtain ⟨w72, hr73, hM74⟩ := r_stores (f := hitC) (l := (List.set l i (Hit.mk ((List.getD l j hz).key) ((List.getD l j hz).score)))) aE31 hM66 0 rfl hitC_len hp69 (by first | omega | (simp only [List.length_set]; omega) | ((try dsimp only); simp only [List.length_set]; omega)) (Hit.mk ((List.getD l i hz).key) ((List.getD l i hz).score)) (hitC_one _)
        have hM75 : Mem S w0 w72 [⟨31, 2, v, (List.length l), (recs hitC (List.set (List.set l i (Hit.mk ((List.getD l j hz).key) ((List.getD l j hz).score))) j (Hit.mk ((List.getD l i hz).key) ((List.getD l i hz).score))))⟩] := hM74.cast (by simp)
        have hS76 : Mem S w0 w72 [] := hM75.sub (List.Sublist.cons _ (List.Sublist.refl _))
        refine GoH.stepF 15 (undef) (w72) ((Instr.storeAt 31 (.pointer (some p68)) (.agg #[.string (sb ((List.getD l i hz).key)), .int .i64 ((List.getD l i hz).score)])).run Try.prog w63 = .ok () w72 ∧ undef = undef) none (by kernel_rfl) (⟨hr73, rfl⟩) (.inr hS76) ?_
        refine GoH.done [] [] (by kernel_rfl) (by kernel_rfl) ?_
        exact J151 _ hM75
  ·
    obtain ⟨p77, hp78, hq79⟩ := rd_at (i := ((i : Nat) : Int)) sT41 (hM3.rd 0 rfl) i (by omega) (by first | omega | (simp only [List.length_set]; omega) | ((try dsimp only); simp only [List.length_set]; omega))
    have hS80 : Mem S w0 w1 [] := hM3.sub (List.Sublist.cons _ (List.Sublist.refl _))
    refine GoI.stepF 10 (.pointer (some p77)) (w1) ((Instr.indexAt 41 (v) (.int .i64 ((i : Nat) : Int))).run Try.prog w1 = .ok (.pointer (some p77)) w1) (some 16) (by kernel_rfl) (hq79 _ _) (.inr hS80) ?_
    refine GoH.each [6, 11] (by kernel_rfl) (by kernel_rfl) ⟨?_, ?_, trivial⟩
    ·
      obtain ⟨p81, hp82, hq83⟩ := rd_at (i := ((j : Nat) : Int)) sT41 (hM3.rd 0 rfl) j (by omega) (by first | omega | (simp only [List.length_set]; omega) | ((try dsimp only); simp only [List.length_set]; omega))
      have hS84 : Mem S w0 w1 [] := hM3.sub (List.Sublist.cons _ (List.Sublist.refl _))
      refine GoI.stepF 6 (.pointer (some p81)) (w1) ((Instr.indexAt 41 (v) (.int .i64 ((j : Nat) : Int))).run Try.prog w1 = .ok (.pointer (some p81)) w1) (some 12) (by kernel_rfl) (hq83 _ _) (.inr hS84) ?_
      refine GoH.each [7, 11] (by kernel_rfl) (by kernel_rfl) ⟨?_, ?_, trivial⟩
      ·
        have hS85 : Mem S w0 w1 [] := hM3.sub (List.Sublist.cons _ (List.Sublist.refl _))
        refine GoI.stepF 7 (.agg #[.string (sb ((List.getD l j hz).key)), .int .i64 ((List.getD l j hz).score)]) (w1) ((Instr.loadAt 31 (.pointer (some p81))).run Try.prog w1 = .ok (.agg #[.string (sb ((List.getD l j hz).key)), .int .i64 ((List.getD l j hz).score)]) w1) (some 13) (by kernel_rfl) (r_loads (f := hitC) (l := l) aE31 (hM3.rd 0 rfl) hitC_len hp82 (by first | omega | (simp only [List.length_set]; omega) | ((try dsimp only); simp only [List.length_set]; omega)) hz) (.inr hS85) ?_
        have hS86 : Mem S w0 w1 [] := hM3.sub (List.Sublist.cons _ (List.Sublist.refl _))
        refine GoH.stepF 11 (.agg #[.string (sb ((List.getD l i hz).key)), .int .i64 ((List.getD l i hz).score)]) (w1) ((Instr.loadAt 31 (.pointer (some p77))).run Try.prog w1 = .ok (.agg #[.string (sb ((List.getD l i hz).key)), .int .i64 ((List.getD l i hz).score)]) w1) (some 17) (by kernel_rfl) (r_loads (f := hitC) (l := l) aE31 (hM3.rd 0 rfl) hitC_len hp78 (by first | omega | (simp only [List.length_set]; omega) | ((try dsimp only); simp only [List.length_set]; omega)) hz) (.inr hS86) ?_
        obtain ⟨p87, hp88, hq89⟩ := rd_at (i := ((i : Nat) : Int)) sT41 (hM3.rd 0 rfl) i (by omega) (by first | omega | (simp only [List.length_set]; omega) | ((try dsimp only); simp only [List.length_set]; omega))
        have hS90 : Mem S w0 w1 [] := hM3.sub (List.Sublist.cons _ (List.Sublist.refl _))
        refine GoH.stepF 12 (.pointer (some p87)) (w1) ((Instr.indexAt 41 (v) (.int .i64 ((i : Nat) : Int))).run Try.prog w1 = .ok (.pointer (some p87)) w1) (some 18) (by kernel_rfl) (hq89 _ _) (.inr hS90) ?_
        obtain ⟨w91, hr92, hM93⟩ := r_stores (f := hitC) (l := l) aE31 hM3 0 rfl hitC_len hp88 (by first | omega | (simp only [List.length_set]; omega) | ((try dsimp only); simp only [List.length_set]; omega)) (Hit.mk ((List.getD l j hz).key) ((List.getD l j hz).score)) (hitC_one _)
        have hM94 : Mem S w0 w91 [⟨31, 2, v, (List.length l), (recs hitC (List.set l i (Hit.mk ((List.getD l j hz).key) ((List.getD l j hz).score))))⟩] := hM93.cast (by simp)
        have hS95 : Mem S w0 w91 [] := hM94.sub (List.Sublist.cons _ (List.Sublist.refl _))
        refine GoH.stepF 13 (undef) (w91) ((Instr.storeAt 31 (.pointer (some p87)) (.agg #[.string (sb ((List.getD l j hz).key)), .int .i64 ((List.getD l j hz).score)])).run Try.prog w1 = .ok () w91 ∧ undef = undef) none (by kernel_rfl) (⟨hr92, rfl⟩) (.inr hS95) ?_
        obtain ⟨p96, hp97, hq98⟩ := rd_at (i := ((j : Nat) : Int)) sT41 (hM94.rd 0 rfl) j (by omega) (by first | omega | (simp only [List.length_set]; omega) | ((try dsimp only); simp only [List.length_set]; omega))
        have hS99 : Mem S w0 w91 [] := hM94.sub (List.Sublist.cons _ (List.Sublist.refl _))
        refine GoH.stepF 14 (.pointer (some p96)) (w91) ((Instr.indexAt 41 (v) (.int .i64 ((j : Nat) : Int))).run Try.prog w91 = .ok (.pointer (some p96)) w91) (some 19) (by kernel_rfl) (hq98 _ _) (.inr hS99) ?_
        obtain ⟨w100, hr101, hM102⟩ := r_stores (f := hitC) (l := (List.set l i (Hit.mk ((List.getD l j hz).key) ((List.getD l j hz).score)))) aE31 hM94 0 rfl hitC_len hp97 (by first | omega | (simp only [List.length_set]; omega) | ((try dsimp only); simp only [List.length_set]; omega)) (Hit.mk ((List.getD l i hz).key) ((List.getD l i hz).score)) (hitC_one _)
        have hM103 : Mem S w0 w100 [⟨31, 2, v, (List.length l), (recs hitC (List.set (List.set l i (Hit.mk ((List.getD l j hz).key) ((List.getD l j hz).score))) j (Hit.mk ((List.getD l i hz).key) ((List.getD l i hz).score))))⟩] := hM102.cast (by simp)
        have hS104 : Mem S w0 w100 [] := hM103.sub (List.Sublist.cons _ (List.Sublist.refl _))
        refine GoH.stepF 15 (undef) (w100) ((Instr.storeAt 31 (.pointer (some p96)) (.agg #[.string (sb ((List.getD l i hz).key)), .int .i64 ((List.getD l i hz).score)])).run Try.prog w91 = .ok () w100 ∧ undef = undef) none (by kernel_rfl) (⟨hr101, rfl⟩) (.inr hS104) ?_
        refine GoH.done [] [] (by kernel_rfl) (by kernel_rfl) ?_
        exact J151 _ hM103
      ·
        have hS105 : Mem S w0 w1 [] := hM3.sub (List.Sublist.cons _ (List.Sublist.refl _))
        refine GoI.stepF 11 (.agg #[.string (sb ((List.getD l i hz).key)), .int .i64 ((List.getD l i hz).score)]) (w1) ((Instr.loadAt 31 (.pointer (some p77))).run Try.prog w1 = .ok (.agg #[.string (sb ((List.getD l i hz).key)), .int .i64 ((List.getD l i hz).score)]) w1) (some 17) (by kernel_rfl) (r_loads (f := hitC) (l := l) aE31 (hM3.rd 0 rfl) hitC_len hp78 (by first | omega | (simp only [List.length_set]; omega) | ((try dsimp only); simp only [List.length_set]; omega)) hz) (.inr hS105) ?_
        have hS106 : Mem S w0 w1 [] := hM3.sub (List.Sublist.cons _ (List.Sublist.refl _))
        refine GoH.stepF 7 (.agg #[.string (sb ((List.getD l j hz).key)), .int .i64 ((List.getD l j hz).score)]) (w1) ((Instr.loadAt 31 (.pointer (some p81))).run Try.prog w1 = .ok (.agg #[.string (sb ((List.getD l j hz).key)), .int .i64 ((List.getD l j hz).score)]) w1) (some 13) (by kernel_rfl) (r_loads (f := hitC) (l := l) aE31 (hM3.rd 0 rfl) hitC_len hp82 (by first | omega | (simp only [List.length_set]; omega) | ((try dsimp only); simp only [List.length_set]; omega)) hz) (.inr hS106) ?_
        obtain ⟨p107, hp108, hq109⟩ := rd_at (i := ((i : Nat) : Int)) sT41 (hM3.rd 0 rfl) i (by omega) (by first | omega | (simp only [List.length_set]; omega) | ((try dsimp only); simp only [List.length_set]; omega))
        have hS110 : Mem S w0 w1 [] := hM3.sub (List.Sublist.cons _ (List.Sublist.refl _))
        refine GoH.stepF 12 (.pointer (some p107)) (w1) ((Instr.indexAt 41 (v) (.int .i64 ((i : Nat) : Int))).run Try.prog w1 = .ok (.pointer (some p107)) w1) (some 18) (by kernel_rfl) (hq109 _ _) (.inr hS110) ?_
        obtain ⟨w111, hr112, hM113⟩ := r_stores (f := hitC) (l := l) aE31 hM3 0 rfl hitC_len hp108 (by first | omega | (simp only [List.length_set]; omega) | ((try dsimp only); simp only [List.length_set]; omega)) (Hit.mk ((List.getD l j hz).key) ((List.getD l j hz).score)) (hitC_one _)
        have hM114 : Mem S w0 w111 [⟨31, 2, v, (List.length l), (recs hitC (List.set l i (Hit.mk ((List.getD l j hz).key) ((List.getD l j hz).score))))⟩] := hM113.cast (by simp)
        have hS115 : Mem S w0 w111 [] := hM114.sub (List.Sublist.cons _ (List.Sublist.refl _))
        refine GoH.stepF 13 (undef) (w111) ((Instr.storeAt 31 (.pointer (some p107)) (.agg #[.string (sb ((List.getD l j hz).key)), .int .i64 ((List.getD l j hz).score)])).run Try.prog w1 = .ok () w111 ∧ undef = undef) none (by kernel_rfl) (⟨hr112, rfl⟩) (.inr hS115) ?_
        obtain ⟨p116, hp117, hq118⟩ := rd_at (i := ((j : Nat) : Int)) sT41 (hM114.rd 0 rfl) j (by omega) (by first | omega | (simp only [List.length_set]; omega) | ((try dsimp only); simp only [List.length_set]; omega))
        have hS119 : Mem S w0 w111 [] := hM114.sub (List.Sublist.cons _ (List.Sublist.refl _))
        refine GoH.stepF 14 (.pointer (some p116)) (w111) ((Instr.indexAt 41 (v) (.int .i64 ((j : Nat) : Int))).run Try.prog w111 = .ok (.pointer (some p116)) w111) (some 19) (by kernel_rfl) (hq118 _ _) (.inr hS119) ?_
        obtain ⟨w120, hr121, hM122⟩ := r_stores (f := hitC) (l := (List.set l i (Hit.mk ((List.getD l j hz).key) ((List.getD l j hz).score)))) aE31 hM114 0 rfl hitC_len hp117 (by first | omega | (simp only [List.length_set]; omega) | ((try dsimp only); simp only [List.length_set]; omega)) (Hit.mk ((List.getD l i hz).key) ((List.getD l i hz).score)) (hitC_one _)
        have hM123 : Mem S w0 w120 [⟨31, 2, v, (List.length l), (recs hitC (List.set (List.set l i (Hit.mk ((List.getD l j hz).key) ((List.getD l j hz).score))) j (Hit.mk ((List.getD l i hz).key) ((List.getD l i hz).score))))⟩] := hM122.cast (by simp)
        have hS124 : Mem S w0 w120 [] := hM123.sub (List.Sublist.cons _ (List.Sublist.refl _))
        refine GoH.stepF 15 (undef) (w120) ((Instr.storeAt 31 (.pointer (some p116)) (.agg #[.string (sb ((List.getD l i hz).key)), .int .i64 ((List.getD l i hz).score)])).run Try.prog w111 = .ok () w120 ∧ undef = undef) none (by kernel_rfl) (⟨hr121, rfl⟩) (.inr hS124) ?_
        refine GoH.done [] [] (by kernel_rfl) (by kernel_rfl) ?_
        exact J151 _ hM123
    ·
      have hS125 : Mem S w0 w1 [] := hM3.sub (List.Sublist.cons _ (List.Sublist.refl _))
      refine GoI.stepF 11 (.agg #[.string (sb ((List.getD l i hz).key)), .int .i64 ((List.getD l i hz).score)]) (w1) ((Instr.loadAt 31 (.pointer (some p77))).run Try.prog w1 = .ok (.agg #[.string (sb ((List.getD l i hz).key)), .int .i64 ((List.getD l i hz).score)]) w1) (some 17) (by kernel_rfl) (r_loads (f := hitC) (l := l) aE31 (hM3.rd 0 rfl) hitC_len hp78 (by first | omega | (simp only [List.length_set]; omega) | ((try dsimp only); simp only [List.length_set]; omega)) hz) (.inr hS125) ?_
      obtain ⟨p126, hp127, hq128⟩ := rd_at (i := ((j : Nat) : Int)) sT41 (hM3.rd 0 rfl) j (by omega) (by first | omega | (simp only [List.length_set]; omega) | ((try dsimp only); simp only [List.length_set]; omega))
      have hS129 : Mem S w0 w1 [] := hM3.sub (List.Sublist.cons _ (List.Sublist.refl _))
      refine GoH.stepF 6 (.pointer (some p126)) (w1) ((Instr.indexAt 41 (v) (.int .i64 ((j : Nat) : Int))).run Try.prog w1 = .ok (.pointer (some p126)) w1) (some 12) (by kernel_rfl) (hq128 _ _) (.inr hS129) ?_
      have hS130 : Mem S w0 w1 [] := hM3.sub (List.Sublist.cons _ (List.Sublist.refl _))
      refine GoH.stepF 7 (.agg #[.string (sb ((List.getD l j hz).key)), .int .i64 ((List.getD l j hz).score)]) (w1) ((Instr.loadAt 31 (.pointer (some p126))).run Try.prog w1 = .ok (.agg #[.string (sb ((List.getD l j hz).key)), .int .i64 ((List.getD l j hz).score)]) w1) (some 13) (by kernel_rfl) (r_loads (f := hitC) (l := l) aE31 (hM3.rd 0 rfl) hitC_len hp127 (by first | omega | (simp only [List.length_set]; omega) | ((try dsimp only); simp only [List.length_set]; omega)) hz) (.inr hS130) ?_
      obtain ⟨p131, hp132, hq133⟩ := rd_at (i := ((i : Nat) : Int)) sT41 (hM3.rd 0 rfl) i (by omega) (by first | omega | (simp only [List.length_set]; omega) | ((try dsimp only); simp only [List.length_set]; omega))
      have hS134 : Mem S w0 w1 [] := hM3.sub (List.Sublist.cons _ (List.Sublist.refl _))
      refine GoH.stepF 12 (.pointer (some p131)) (w1) ((Instr.indexAt 41 (v) (.int .i64 ((i : Nat) : Int))).run Try.prog w1 = .ok (.pointer (some p131)) w1) (some 18) (by kernel_rfl) (hq133 _ _) (.inr hS134) ?_
      obtain ⟨w135, hr136, hM137⟩ := r_stores (f := hitC) (l := l) aE31 hM3 0 rfl hitC_len hp132 (by first | omega | (simp only [List.length_set]; omega) | ((try dsimp only); simp only [List.length_set]; omega)) (Hit.mk ((List.getD l j hz).key) ((List.getD l j hz).score)) (hitC_one _)
      have hM138 : Mem S w0 w135 [⟨31, 2, v, (List.length l), (recs hitC (List.set l i (Hit.mk ((List.getD l j hz).key) ((List.getD l j hz).score))))⟩] := hM137.cast (by simp)
      have hS139 : Mem S w0 w135 [] := hM138.sub (List.Sublist.cons _ (List.Sublist.refl _))
      refine GoH.stepF 13 (undef) (w135) ((Instr.storeAt 31 (.pointer (some p131)) (.agg #[.string (sb ((List.getD l j hz).key)), .int .i64 ((List.getD l j hz).score)])).run Try.prog w1 = .ok () w135 ∧ undef = undef) none (by kernel_rfl) (⟨hr136, rfl⟩) (.inr hS139) ?_
      obtain ⟨p140, hp141, hq142⟩ := rd_at (i := ((j : Nat) : Int)) sT41 (hM138.rd 0 rfl) j (by omega) (by first | omega | (simp only [List.length_set]; omega) | ((try dsimp only); simp only [List.length_set]; omega))
      have hS143 : Mem S w0 w135 [] := hM138.sub (List.Sublist.cons _ (List.Sublist.refl _))
      refine GoH.stepF 14 (.pointer (some p140)) (w135) ((Instr.indexAt 41 (v) (.int .i64 ((j : Nat) : Int))).run Try.prog w135 = .ok (.pointer (some p140)) w135) (some 19) (by kernel_rfl) (hq142 _ _) (.inr hS143) ?_
      obtain ⟨w144, hr145, hM146⟩ := r_stores (f := hitC) (l := (List.set l i (Hit.mk ((List.getD l j hz).key) ((List.getD l j hz).score)))) aE31 hM138 0 rfl hitC_len hp141 (by first | omega | (simp only [List.length_set]; omega) | ((try dsimp only); simp only [List.length_set]; omega)) (Hit.mk ((List.getD l i hz).key) ((List.getD l i hz).score)) (hitC_one _)
      have hM147 : Mem S w0 w144 [⟨31, 2, v, (List.length l), (recs hitC (List.set (List.set l i (Hit.mk ((List.getD l j hz).key) ((List.getD l j hz).score))) j (Hit.mk ((List.getD l i hz).key) ((List.getD l i hz).score))))⟩] := hM146.cast (by simp)
      have hS148 : Mem S w0 w144 [] := hM147.sub (List.Sublist.cons _ (List.Sublist.refl _))
      refine GoH.stepF 15 (undef) (w144) ((Instr.storeAt 31 (.pointer (some p140)) (.agg #[.string (sb ((List.getD l i hz).key)), .int .i64 ((List.getD l i hz).score)])).run Try.prog w135 = .ok () w144 ∧ undef = undef) none (by kernel_rfl) (⟨hr145, rfl⟩) (.inr hS148) ?_
      refine GoH.done [] [] (by kernel_rfl) (by kernel_rfl) ?_
      exact J151 _ hM147


end Go.Proofs.Ytbammppeneoffaa
