/-
  The walks of a builder with room.
-/
import Derived.Test.YtmjkbmlcclmdkaaDoorTxt
import Derived.Test.YtmjkbmlcclmdkaaDoorGrow
import Derived.Test.YtmjkbmlcclmdkaaDoorDoorP
namespace Go.Proofs.YtmjkbmlcclmdkaaDoor
open Go Go.Gw Go.NumP Go.CrcP Go.SealP Go.TupP Go.DoorP Go.RowKit
set_option linter.unusedVariables false
set_option linter.unusedSimpArgs false


set_option maxHeartbeats 400000 in
theorem bchk_n {S : List Nat} {w0 : World} (b : Nat) (w : World) (hM : Mem S w0 w [⟨57, 2, (obj b), 1, [.pointer none, .slice none 0 0]⟩]) :
    Calls Tryd.prog 35 #[.pointer (some (⟨b, 0, none⟩))] w (fun e w' => e = .returned (.tuple #[]) ∧ Mem S w0 w' [⟨57, 2, (obj b), 1, [.pointer (some (⟨b, 0, none⟩)), .slice none 0 0]⟩]) := by
  obtain ⟨R, hR⟩ : ∃ R : Ending → World → Prop, R = (fun e w' => e = .returned (.tuple #[]) ∧ Mem S w0 w' [⟨57, 2, (obj b), 1, [.pointer (some (⟨b, 0, none⟩)), .slice none 0 0]⟩]) := ⟨_, rfl⟩
  rw [← hR]
  refine GoS.enter (n := 20) Tryd.func35 (by kernel_rfl) rfl [(0, .pointer (some (⟨b, 0, none⟩)))] (by kernel_rfl) (by kernel_rfl) ?_
  have o5 : (Instr.loadAt 55 (.pointer (some (⟨b, 0, none⟩)))).run Tryd.prog w = .ok (.pointer none) w := c_load pE55 (hM.rd 0 rfl) (cel_obj b 0) rfl
  have o6 : (convert 55 74 (.pointer (some (⟨b, 0, none⟩)))).run Tryd.prog w = .ok (.pointer (some (⟨b, 0, none⟩))) w := f_toU Tryd.underlying55 Tryd.underlying74 (j := _) rfl (by decide) (hM.get 0 rfl) (Nat.zero_lt_succ _)
  have o7 : (convert 74 55 (.pointer (some (⟨b, 0, none⟩)))).run Tryd.prog w = .ok (.pointer (some (⟨b, 0, none⟩))) w := f_fromU Tryd.underlying74 Tryd.underlying55 (j := _) rfl (hM.get 0 rfl) (by kernel_rfl)
  obtain ⟨w1, hr2, hM3⟩ := c_store (u := .pointer (some (⟨b, 0, none⟩))) (by kernel_rfl) hM 0 rfl (cel_obj b 0) (by decide) rfl rfl
  have hM4 : Mem S w0 w1 [⟨57, 2, (obj b), 1, [.pointer (some (⟨b, 0, none⟩)), .slice none 0 0]⟩] := hM3
  have o8 : (Instr.storeAt 55 (.pointer (some (⟨b, 0, none⟩))) (.pointer (some (⟨b, 0, none⟩)))).run Tryd.prog w = .ok () w1 ∧ undef = undef := ⟨hr2, rfl⟩
  refine GoS.run [] [.n, .n, .n, .n, .n, .h (.pointer none), .n, .n, .n, .n, .n, .n, .h (.pointer (some (⟨b, 0, none⟩))), .n, .h (.pointer (some (⟨b, 0, none⟩))), .n, .n, .u (undef) (w1), .n] _ [] [] w1 (by kernel_rfl) (.cons o5 (.cons o6 (.cons o7 (.cons o8 .nil)))) ?_
  refine GoS.fin (fn := Tryd.f35) (v := (.tuple #[])) Tryd.func35 (by kernel_rfl) ?_
  rw [hR]
  exact ⟨rfl, hM4⟩

set_option maxHeartbeats 400000 in
theorem bchk_u {S : List Nat} {w0 : World} (b : Nat) (v : Value) (w : World) (hM : Mem S w0 w [⟨57, 2, (obj b), 1, [.pointer (some (⟨b, 0, none⟩)), v]⟩]) :
    Calls Tryd.prog 35 #[.pointer (some (⟨b, 0, none⟩))] w (fun e w' => e = .returned (.tuple #[]) ∧ Mem S w0 w' [⟨57, 2, (obj b), 1, [.pointer (some (⟨b, 0, none⟩)), v]⟩]) := by
  obtain ⟨R, hR⟩ : ∃ R : Ending → World → Prop, R = (fun e w' => e = .returned (.tuple #[]) ∧ Mem S w0 w' [⟨57, 2, (obj b), 1, [.pointer (some (⟨b, 0, none⟩)), v]⟩]) := ⟨_, rfl⟩
  rw [← hR]
  refine GoS.enter (n := 20) Tryd.func35 (by kernel_rfl) rfl [(0, .pointer (some (⟨b, 0, none⟩)))] (by kernel_rfl) (by kernel_rfl) ?_
  have o1 : (Instr.loadAt 55 (.pointer (some (⟨b, 0, none⟩)))).run Tryd.prog w = .ok (.pointer (some (⟨b, 0, none⟩))) w := c_load pE55 (hM.rd 0 rfl) (cel_obj b 0) rfl
  have o2 : (Instr.loadAt 55 (.pointer (some (⟨b, 0, none⟩)))).run Tryd.prog w = .ok (.pointer (some (⟨b, 0, none⟩))) w := c_load pE55 (hM.rd 0 rfl) (cel_obj b 0) rfl
  have o3 : (binOp .neq 55 (.pointer (some (⟨b, 0, none⟩))) (.pointer (some (⟨b, 0, none⟩)))).run Tryd.prog w = .ok (.bool false) w := Lib.run_neq_ptr_same w ⟨b, 0, none⟩ Tryd.underlying55 rfl
  refine GoS.run [] [.n, .n, .n, .n, .n, .h (.pointer (some (⟨b, 0, none⟩))), .n, .n, .n, .n, .n, .n, .n, .n, .h (.pointer (some (⟨b, 0, none⟩))), .n, .h (.bool false), .n, .n, .n] _ [] [] w (by kernel_rfl) (.cons o1 (.cons o2 (.cons o3 .nil))) ?_
  refine GoS.fin (fn := Tryd.f35) (v := (.tuple #[])) Tryd.func35 (by kernel_rfl) ?_
  rw [hR]
  exact ⟨rfl, hM⟩

set_option maxHeartbeats 400000 in
theorem bgrow_c {S : List Nat} {w0 : World} (b : Nat) (n : Nat) (h1 : 1 ≤ n) (hn : n ≤ 281474976710656) (w : World) (hM : Mem S w0 w [⟨57, 2, (obj b), 1, [.pointer (some (⟨b, 0, none⟩)), .slice none 0 0]⟩]) :
    Calls Tryd.prog 45 #[.pointer (some (⟨b, 0, none⟩)), .int .i64 ((n : Nat) : Int)] w (fun e w' => ∃ v xs, e = .returned (.tuple #[]) ∧ xs.length = n ∧ Mem S w0 w' [⟨57, 2, (obj b), 1, [.pointer (some (⟨b, 0, none⟩)), (cut v 0)]⟩, ⟨5, 1, v, n, xs⟩]) := by
  obtain ⟨R, hR⟩ : ∃ R : Ending → World → Prop, R = (fun e w' => ∃ v xs, e = .returned (.tuple #[]) ∧ xs.length = n ∧ Mem S w0 w' [⟨57, 2, (obj b), 1, [.pointer (some (⟨b, 0, none⟩)), (cut v 0)]⟩, ⟨5, 1, v, n, xs⟩]) := ⟨_, rfl⟩
  rw [← hR]
  refine GoS.enter (n := 30) Tryd.func45 (by kernel_rfl) rfl [(0, .pointer (some (⟨b, 0, none⟩))), (1, .int .i64 ((n : Nat) : Int))] (by kernel_rfl) (by kernel_rfl) ?_
  refine GoS.run [0, 1] [.n] _ [.code (csub (cd Tryd.f45) [0]), .code (csub (cd Tryd.f45) [1])] [(0, .pointer (some (⟨b, 0, none⟩))), (1, .int .i64 ((n : Nat) : Int))] w (by kernel_rfl) .nil ?_
  obtain ⟨w1, hw2⟩ : ∃ w_, (w).drewN 1 = w_ := ⟨_, rfl⟩
  refine GoS.held (fun W_ => Mem S w0 W_ [⟨57, 2, (obj b), 1, [.pointer (some (⟨b, 0, none⟩)), .slice none 0 0]⟩]) [] 0 (by kernel_rfl) (by kernel_rfl) 16 (by kernel_rfl) ?_
  rw [hw2]
  have hM3 : Mem S w0 w1 [⟨57, 2, (obj b), 1, [.pointer (some (⟨b, 0, none⟩)), .slice none 0 0]⟩] := hw2 ▸ hM.ext (Kept.drewN _ _ 1)
  have hS4 : Mem S w0 w1 [⟨57, 2, (obj b), 1, [.pointer (some (⟨b, 0, none⟩)), .slice none 0 0]⟩] := hM3.sub (List.Sublist.cons_cons _ (List.Sublist.refl _))
  refine GoH.takeV 0 (.pointer (some (⟨b, 0, none⟩))) (.pointer (some (⟨b, 0, none⟩))) (some 5) (fun W_ => by kernel_rfl) rfl hS4 ?_
  refine GoH.takeV 1 (.pointer (some (⟨b, 0, none⟩))) (.pointer (some (⟨b, 0, none⟩))) (some 6) (fun W_ => by kernel_rfl) rfl hS4 ?_
  refine GoH.takeV 2 (.pointer (some (⟨b, 1, none⟩))) (.pointer (some (⟨b, 1, none⟩))) (some 7) (fun W_ => by kernel_rfl) rfl hS4 ?_
  refine GoH.takeF 3 (.slice none 0 0) (fun W_ => (Instr.loadAt 45 (.pointer (some (⟨b, 1, none⟩)))).run Tryd.prog W_ = .ok (.slice none 0 0) W_) (some 8) (fun W_ => by kernel_rfl) (fun W_ hW_ => c_load pE45 (hW_.rd 0 rfl) (cel_obj b 1) rfl) hS4 ?_
  refine GoH.takeV 4 (.int .i64 0) (.int .i64 0) (some 9) (fun W_ => by kernel_rfl) rfl hS4 ?_
  refine GoH.takeV 5 (.int .i64 0) (.int .i64 0) (some 10) (fun W_ => by kernel_rfl) rfl hS4 ?_
  refine GoH.takeV 6 (.int .i64 ((n : Nat) : Int)) (.int .i64 ((n : Nat) : Int)) (some 11) (fun W_ => by kernel_rfl) rfl hS4 ?_
  refine GoH.takeF 7 (.int .i64 ((n : Nat) : Int)) (fun W_ => (binOp .add 3 (.int .i64 0) (.int .i64 ((n : Nat) : Int))).run Tryd.prog W_ = .ok (.int .i64 ((n : Nat) : Int)) W_) (some 12) (fun W_ => by kernel_rfl) (fun W_ hW_ => f_add (by rw [show 0 + ((n : Nat) : Int) = ((n : Nat) : Int) by omega]; exact IntWalk.i64_in _ (by omega))) hS4 ?_
  refine GoH.takeV 9 (.pointer (some (⟨b, 0, none⟩))) (.pointer (some (⟨b, 0, none⟩))) (some 14) (fun W_ => by kernel_rfl) rfl hS4 ?_
  refine GoH.takeV 10 (.pointer (some (⟨b, 0, none⟩))) (.pointer (some (⟨b, 0, none⟩))) (some 15) (fun W_ => by kernel_rfl) rfl hS4 ?_
  refine GoH.takeV 11 (.pointer (some (⟨b, 1, none⟩))) (.pointer (some (⟨b, 1, none⟩))) (some 16) (fun W_ => by kernel_rfl) rfl hS4 ?_
  refine GoH.takeF 12 (.slice none 0 0) (fun W_ => (Instr.loadAt 45 (.pointer (some (⟨b, 1, none⟩)))).run Tryd.prog W_ = .ok (.slice none 0 0) W_) (some 17) (fun W_ => by kernel_rfl) (fun W_ hW_ => c_load pE45 (hW_.rd 0 rfl) (cel_obj b 1) rfl) hS4 ?_
  refine GoH.takeV 13 (.int .i64 0) (.int .i64 0) (some 18) (fun W_ => by kernel_rfl) rfl hS4 ?_
  obtain ⟨v5, w6, xs7, hr8, hx9, hM10⟩ := m_mnz (ps := #[3]) Tryd.func48 (by kernel_rfl) (by kernel_rfl) (by kernel_rfl) (by kernel_rfl) Tryd.underlying45 hM3 n (by omega)
  have hS11 : Mem S w0 w6 [⟨57, 2, (obj b), 1, [.pointer (some (⟨b, 0, none⟩)), .slice none 0 0]⟩] := hM10.sub (List.Sublist.cons _ (List.Sublist.cons_cons _ (List.Sublist.refl _)))
  refine GoH.stepF 8 (v5) (w6) ((callFunc 48 #[.int .i64 ((n : Nat) : Int)]).run Tryd.prog w1 = .ok (.value v5) w6) (some 13) (by kernel_rfl) (hr8) (.inr hS11) ?_
  have hS12 : Mem S w0 w6 [⟨57, 2, (obj b), 1, [.pointer (some (⟨b, 0, none⟩)), .slice none 0 0]⟩] := hM10.sub (List.Sublist.cons _ (List.Sublist.cons_cons _ (List.Sublist.refl _)))
  refine GoH.stepF 14 ((cut v5 0)) (w6) ((Instr.sliceAt 45 (v5) none (some (.int .i64 0)) none).run Tryd.prog w6 = .ok (cut v5 0) w6) (some 19) (by kernel_rfl) (f_cut0 sT45 (hM10.rd 0 rfl) 0 (by omega) (by first | omega | (dsimp only; omega)) _ _) (.inr hS12) ?_
  refine GoH.takeV 15 ((cut v5 0)) ((cut v5 0)) (some 4) (fun W_ => by kernel_rfl) rfl hS12 ?_
  refine GoH.done [0, 4] [(0, .pointer (some (⟨b, 0, none⟩))), (4, (cut v5 0))] (by kernel_rfl) (by kernel_rfl) ?_
  have o17 : (Instr.loadAt 45 (.pointer (some (⟨b, 1, none⟩)))).run Tryd.prog w6 = .ok (.slice none 0 0) w6 := c_load pE45 (hM10.rd 1 rfl) (cel_obj b 1) rfl
  have o18 : (Builtin.copy_ #[45, 45] 3 #[(cut v5 0), .slice none 0 0]).run Tryd.prog w6 = .ok (.int .i64 0) w6 := f_copy0 sT45 (hM10.get 0 rfl) _ _
  obtain ⟨w13, hr14, hM15⟩ := c_store (u := (cut v5 0)) (by kernel_rfl) hM10 1 rfl (cel_obj b 1) (by decide) (cut_one (hM10.get 0 rfl) 0).1 (cut_one (hM10.get 0 rfl) 0).2.1
  have hM16 : Mem S w0 w13 [⟨5, 1, v5, n, xs7⟩, ⟨57, 2, (obj b), 1, [.pointer (some (⟨b, 0, none⟩)), (cut v5 0)]⟩] := hM15
  have o19 : (Instr.storeAt 45 (.pointer (some (⟨b, 1, none⟩))) ((cut v5 0))).run Tryd.prog w6 = .ok () w13 ∧ undef = undef := ⟨hr14, rfl⟩
  refine GoS.run [] [.n, .n, .n, .n, .n, .n, .h (.slice none 0 0), .h (.int .i64 0), .n, .n, .n, .n, .n, .n, .u (undef) (w13), .n] _ [] [] w13 (by kernel_rfl) (.cons o17 (.cons o18 (.cons o19 .nil))) ?_
  refine GoS.fin (fn := Tryd.f45) (v := (.tuple #[])) Tryd.func45 (by kernel_rfl) ?_
  rw [hR]
  have hM20 : Mem S w0 w13 [⟨57, 2, (obj b), 1, [.pointer (some (⟨b, 0, none⟩)), (cut v5 0)]⟩, ⟨5, 1, v5, n, xs7⟩] := hM16.perm ((List.Perm.cons _ (List.Perm.refl _)).trans (List.Perm.swap _ _ _))
  exact ⟨v5, xs7, rfl, hx9, hM20⟩

set_option maxHeartbeats 400000 in
theorem bgrow2_c {S : List Nat} {w0 : World} (b : Nat) (n : Nat) (h1 : 1 ≤ n) (hn : n ≤ 281474976710656) (w : World) (hM : Mem S w0 w [⟨57, 2, (obj b), 1, [.pointer none, .slice none 0 0]⟩]) :
    Calls Tryd.prog 38 #[.pointer (some (⟨b, 0, none⟩)), .int .i64 ((n : Nat) : Int)] w (fun e w' => ∃ v xs, e = .returned (.tuple #[]) ∧ xs.length = n ∧ Mem S w0 w' [⟨57, 2, (obj b), 1, [.pointer (some (⟨b, 0, none⟩)), (cut v 0)]⟩, ⟨5, 1, v, n, xs⟩]) := by
  obtain ⟨R, hR⟩ : ∃ R : Ending → World → Prop, R = (fun e w' => ∃ v xs, e = .returned (.tuple #[]) ∧ xs.length = n ∧ Mem S w0 w' [⟨57, 2, (obj b), 1, [.pointer (some (⟨b, 0, none⟩)), (cut v 0)]⟩, ⟨5, 1, v, n, xs⟩]) := ⟨_, rfl⟩
  rw [← hR]
  refine GoS.enter (n := 25) Tryd.func38 (by kernel_rfl) rfl [(0, .pointer (some (⟨b, 0, none⟩))), (1, .int .i64 ((n : Nat) : Int))] (by kernel_rfl) (by kernel_rfl) ?_
  refine GoS.run [0, 1, 4] [.n, .n, .n] _ [.inRegion (cops (csub (cd Tryd.f38) [0])) [1], .code (csub (cd Tryd.f38) [1])] [(0, .pointer (some (⟨b, 0, none⟩))), (1, .int .i64 ((n : Nat) : Int)), (4, .pointer (some (⟨b, 0, none⟩)))] w (by kernel_rfl) .nil ?_
  refine GoS.call [0, 1] 35 #[.pointer (some (⟨b, 0, none⟩))] (some 5) [.inRegion (cops (csub (cd Tryd.f38) [0])) [], .code (csub (cd Tryd.f38) [1])] [(0, .pointer (some (⟨b, 0, none⟩))), (1, .int .i64 ((n : Nat) : Int))] (by kernel_rfl) (bchk_n b w (Mem.lend (R := [⟨57, 2, (obj b), 1, [.pointer none, .slice none 0 0]⟩]) (L := []) hM)) ?_
  rintro _ w1 ⟨rfl, m2⟩
  refine ⟨_, rfl, ?_⟩
  have hM3 : Mem S w0 w1 [⟨57, 2, (obj b), 1, [.pointer (some (⟨b, 0, none⟩)), .slice none 0 0]⟩] := Mem.back (R := [⟨57, 2, (obj b), 1, [.pointer none, .slice none 0 0]⟩]) (L := []) hM m2
  refine GoS.run [0, 1, 7] [.n, .n, .n, .n, .n, .n, .n] _ [.code (csub (cd Tryd.f38) [1,0,1]), .code (csub (cd Tryd.f38) [1,1])] [(0, .pointer (some (⟨b, 0, none⟩))), (1, .int .i64 ((n : Nat) : Int)), (7, .bool (decide (((n : Nat) : Int) < 0)))] w1 (by kernel_rfl) .nil ?_
  refine GoS.cond (decide (((n : Nat) : Int) < 0)) [.code (csub (cd Tryd.f38) [1,0,1,0]), .code (csub (cd Tryd.f38) [1,1])] [.code (csub (cd Tryd.f38) [1,0,1,1]), .code (csub (cd Tryd.f38) [1,1])] (by kernel_rfl) (fun h4 => ?_) (fun h4 => ?_)
  ·
    exact absurd (of_decide_eq_true h4) (by omega)
  ·
    have h4p : ¬ (((n : Nat) : Int) < 0) := of_decide_eq_false h4
    refine GoS.run [0, 1] [.n] _ [.code (csub (cd Tryd.f38) [1,1])] [(0, .pointer (some (⟨b, 0, none⟩))), (1, .int .i64 ((n : Nat) : Int))] w1 (by kernel_rfl) .nil ?_
    refine GoS.run [0, 1] [.n] _ [.code (csub (cd Tryd.f38) [1,1,0]), .code (csub (cd Tryd.f38) [1,1,1])] [(0, .pointer (some (⟨b, 0, none⟩))), (1, .int .i64 ((n : Nat) : Int))] w1 (by kernel_rfl) .nil ?_
    refine GoS.drawC (fun W_ => Kept [] w1 W_) 3 (by kernel_rfl) [0, 1, 21] [.u (.pointer (some (⟨b, 0, none⟩))) w1, .u (.pointer (some (⟨b, 0, none⟩))) w1, .u (.pointer (some (⟨b, 1, none⟩))) w1, .h (.slice none 0 0), .u (.int .i64 0) w1, .u (.pointer (some (⟨b, 0, none⟩))) w1, .u (.pointer (some (⟨b, 0, none⟩))) w1, .u (.pointer (some (⟨b, 1, none⟩))) w1, .h (.slice none 0 0), .u (.int .i64 0) w1, .u (.int .i64 0) w1, .u (.int .i64 ((n : Nat) : Int)) w1, .u (.bool (decide (0 < ((n : Nat) : Int)))) w1] (fun W_ => [(Instr.loadAt 45 (.pointer (some (⟨b, 1, none⟩)))).run Tryd.prog W_ = .ok (.slice none 0 0) W_, (Instr.loadAt 45 (.pointer (some (⟨b, 1, none⟩)))).run Tryd.prog W_ = .ok (.slice none 0 0) W_]) [(.pointer (some (⟨b, 0, none⟩)), .pointer (some (⟨b, 0, none⟩))), (.pointer (some (⟨b, 0, none⟩)), .pointer (some (⟨b, 0, none⟩))), (.pointer (some (⟨b, 1, none⟩)), .pointer (some (⟨b, 1, none⟩))), (.int .i64 0, .int .i64 0), (.pointer (some (⟨b, 0, none⟩)), .pointer (some (⟨b, 0, none⟩))), (.pointer (some (⟨b, 0, none⟩)), .pointer (some (⟨b, 0, none⟩))), (.pointer (some (⟨b, 1, none⟩)), .pointer (some (⟨b, 1, none⟩))), (.int .i64 0, .int .i64 0), (.int .i64 0, .int .i64 0), (.int .i64 ((n : Nat) : Int), .int .i64 ((n : Nat) : Int)), (.bool (decide (0 < ((n : Nat) : Int))), .bool (decide (0 < ((n : Nat) : Int))))] [(0, .pointer (some (⟨b, 0, none⟩))), (1, .int .i64 ((n : Nat) : Int)), (21, .bool (decide (0 < ((n : Nat) : Int))))] (by kernel_rfl) (by kernel_rfl) ([(21, .bool (decide (0 < ((n : Nat) : Int)))), (20, .int .i64 ((n : Nat) : Int)), (19, .int .i64 0), (18, .int .i64 0), (17, .slice none 0 0), (16, .pointer (some (⟨b, 1, none⟩))), (15, .pointer (some (⟨b, 0, none⟩))), (14, .pointer (some (⟨b, 0, none⟩))), (13, .int .i64 0), (12, .slice none 0 0), (11, .pointer (some (⟨b, 1, none⟩))), (10, .pointer (some (⟨b, 0, none⟩))), (9, .pointer (some (⟨b, 0, none⟩)))] ++ [(0, .pointer (some (⟨b, 0, none⟩))), (1, .int .i64 ((n : Nat) : Int))]) (fun W_ => by kernel_rfl) (by kernel_rfl) (.cons rfl (.cons rfl (.cons rfl (.cons rfl (.cons rfl (.cons rfl (.cons rfl (.cons rfl (.cons rfl (.cons rfl (.cons rfl Obs.nil))))))))))) (Kept.drewN _ _ 1) (fun W_ hW_ => (.cons (c_load pE45 ((hM3.rd 0 rfl).kept0 hW_) (cel_obj b 1) rfl) (.cons (c_load pE45 ((hM3.rd 0 rfl).kept0 hW_) (cel_obj b 1) rfl) Obs.nil))) (fun w5 hw6 => ?_)
    have hM7 := hM3.ext hw6
    refine GoS.cond (decide (0 < ((n : Nat) : Int))) [.code (csub (cd Tryd.f38) [1,1,1,0])] [.code (csub (cd Tryd.f38) [1,1,1,1])] (by kernel_rfl) (fun h8 => ?_) (fun h8 => ?_)
    ·
      have h8p : 0 < ((n : Nat) : Int) := of_decide_eq_true h8
      refine GoS.run [22, 23] [.n, .n, .n] _ [.inRegion (cops (csub (cd Tryd.f38) [1,1,1,0])) [2]] [(22, .pointer (some (⟨b, 0, none⟩))), (23, .int .i64 ((n : Nat) : Int))] w5 (by kernel_rfl) .nil ?_
      refine GoS.call [] 45 #[.pointer (some (⟨b, 0, none⟩)), .int .i64 ((n : Nat) : Int)] (some 24) [.inRegion (cops (csub (cd Tryd.f38) [1,1,1,0])) []] [] (by kernel_rfl) (bgrow_c b n (by omega) (by omega) w5 (Mem.lend (R := [⟨57, 2, (obj b), 1, [.pointer (some (⟨b, 0, none⟩)), .slice none 0 0]⟩]) (L := []) hM7)) ?_
      rintro _ w9 ⟨v11, xs12, rfl, hx13, m10⟩
      refine ⟨_, rfl, ?_⟩
      have hM14 : Mem S w0 w9 [⟨57, 2, (obj b), 1, [.pointer (some (⟨b, 0, none⟩)), (cut v11 0)]⟩, ⟨5, 1, v11, n, xs12⟩] := Mem.back (R := [⟨57, 2, (obj b), 1, [.pointer (some (⟨b, 0, none⟩)), .slice none 0 0]⟩]) (L := []) hM7 m10
      refine GoS.run [] [.n] _ [] [] w9 (by kernel_rfl) .nil ?_
      refine GoS.fin (fn := Tryd.f38) (v := (.tuple #[])) Tryd.func38 (by kernel_rfl) ?_
      rw [hR]
      have hM15 : Mem S w0 w9 [⟨5, 1, v11, n, xs12⟩, ⟨57, 2, (obj b), 1, [.pointer (some (⟨b, 0, none⟩)), (cut v11 0)]⟩] := hM14.perm ((List.Perm.cons _ (List.Perm.refl _)).trans (List.Perm.swap _ _ _))
      have hM16 : Mem S w0 w9 [⟨57, 2, (obj b), 1, [.pointer (some (⟨b, 0, none⟩)), (cut v11 0)]⟩, ⟨5, 1, v11, n, xs12⟩] := hM15.perm ((List.Perm.cons _ (List.Perm.refl _)).trans (List.Perm.swap _ _ _))
      exact ⟨v11, xs12, rfl, hx13, hM16⟩
    ·
      exact absurd (of_decide_eq_false h8) (by omega)

set_option maxHeartbeats 400000 in
theorem bws_c {S : List Nat} {w0 : World} (b : Nat) (v : Value) (n m : Nat) (xs : List Value) (s : List UInt8) (hfit : m + s.length ≤ n) (h0 : 0 < n) (w : World) (hM : Mem S w0 w [⟨57, 2, (obj b), 1, [.pointer (some (⟨b, 0, none⟩)), (cut v m)]⟩, ⟨5, 1, v, n, xs⟩]) :
    Calls Tryd.prog 40 #[.pointer (some (⟨b, 0, none⟩)), .string (sb s)] w (fun e w' => e = .returned (.tuple #[.int .i64 ((List.length s : Nat) : Int), .nilIface]) ∧ Mem S w0 w' [⟨57, 2, (obj b), 1, [.pointer (some (⟨b, 0, none⟩)), (cut v (m + List.length s))]⟩, ⟨5, 1, v, n, (gapp xs m s)⟩]) := by
  obtain ⟨R, hR⟩ : ∃ R : Ending → World → Prop, R = (fun e w' => e = .returned (.tuple #[.int .i64 ((List.length s : Nat) : Int), .nilIface]) ∧ Mem S w0 w' [⟨57, 2, (obj b), 1, [.pointer (some (⟨b, 0, none⟩)), (cut v (m + List.length s))]⟩, ⟨5, 1, v, n, (gapp xs m s)⟩]) := ⟨_, rfl⟩
  rw [← hR]
  refine GoS.enter (n := 19) Tryd.func40 (by kernel_rfl) rfl [(0, .pointer (some (⟨b, 0, none⟩))), (1, .string (sb s))] (by kernel_rfl) (by kernel_rfl) ?_
  refine GoS.run [0, 1, 6] [.n, .n, .n, .n, .n, .n, .n, .n] _ [.inRegion (cops (csub (cd Tryd.f40) [1,0])) [1], .code (csub (cd Tryd.f40) [1,1])] [(0, .pointer (some (⟨b, 0, none⟩))), (1, .string (sb s)), (6, .pointer (some (⟨b, 0, none⟩)))] w (by kernel_rfl) .nil ?_
  refine GoS.call [0, 1] 35 #[.pointer (some (⟨b, 0, none⟩))] (some 7) [.inRegion (cops (csub (cd Tryd.f40) [1,0])) [], .code (csub (cd Tryd.f40) [1,1])] [(0, .pointer (some (⟨b, 0, none⟩))), (1, .string (sb s))] (by kernel_rfl) (bchk_u b (cut v m) w (Mem.lend (R := [⟨57, 2, (obj b), 1, [.pointer (some (⟨b, 0, none⟩)), (cut v m)]⟩]) (L := [⟨5, 1, v, n, xs⟩]) hM)) ?_
  rintro _ w1 ⟨rfl, m2⟩
  refine ⟨_, rfl, ?_⟩
  have hM3 : Mem S w0 w1 [⟨57, 2, (obj b), 1, [.pointer (some (⟨b, 0, none⟩)), (cut v m)]⟩, ⟨5, 1, v, n, xs⟩] := Mem.back (R := [⟨57, 2, (obj b), 1, [.pointer (some (⟨b, 0, none⟩)), (cut v m)]⟩]) (L := [⟨5, 1, v, n, xs⟩]) hM m2
  have o12 : (Instr.loadAt 45 (.pointer (some (⟨b, 1, none⟩)))).run Tryd.prog w1 = .ok ((cut v m)) w1 := c_load pE45 (hM3.rd 0 rfl) (cel_obj b 1) rfl
  obtain ⟨w4, hr5, hM6⟩ := m_approom (u := 9) sT45 Tryd.underlying9 hM3 1 rfl m s (hfit) (h0) 45
  have hM7 : Mem S w0 w4 [⟨57, 2, (obj b), 1, [.pointer (some (⟨b, 0, none⟩)), (cut v m)]⟩, ⟨5, 1, v, n, (gapp xs m s)⟩] := hM6
  have o13 : (Builtin.append_ #[45, 9] 45 #[(cut v m), .string (sb s)]).run Tryd.prog w1 = .ok (cut v (m + List.length s)) w4 := hr5
  obtain ⟨w8, hr9, hM10⟩ := c_store (u := (cut v (m + List.length s))) (by kernel_rfl) hM7 0 rfl (cel_obj b 1) (by decide) (cut_one (hM7.get 1 rfl) (m + List.length s)).1 (cut_one (hM7.get 1 rfl) (m + List.length s)).2.1
  have hM11 : Mem S w0 w8 [⟨57, 2, (obj b), 1, [.pointer (some (⟨b, 0, none⟩)), (cut v (m + List.length s))]⟩, ⟨5, 1, v, n, (gapp xs m s)⟩] := hM10
  have o14 : (Instr.storeAt 45 (.pointer (some (⟨b, 1, none⟩))) ((cut v (m + List.length s)))).run Tryd.prog w4 = .ok () w8 ∧ undef = undef := ⟨hr9, rfl⟩
  have o15 : (Builtin.len_ #[9] 3 #[.string (sb s)]).run Tryd.prog w8 = .ok (.int .i64 ((s.length : Nat) : Int)) w8 := f_len (by kernel_rfl)
  refine GoS.run [4, 5] [.n, .n, .n, .n, .n, .n, .n, .h ((cut v m)), .n, .u ((cut v (m + List.length s))) (w4), .n, .n, .u (undef) (w8), .n, .n, .n, .n, .h (.int .i64 ((s.length : Nat) : Int)), .n, .n, .n] _ [.code (csub (cd Tryd.f40) [1,1,1,1])] [(4, .int .i64 ((s.length : Nat) : Int)), (5, .nilIface)] w8 (by kernel_rfl) (.cons o12 (.cons o13 (.cons o14 (.cons o15 .nil)))) ?_
  refine GoS.ret (fn := Tryd.f40) (v := (.tuple #[.int .i64 ((s.length : Nat) : Int), .nilIface])) Tryd.func40 (by kernel_rfl) ?_
  rw [hR]
  exact ⟨rfl, hM11⟩

theorem bstrg_c {S : List Nat} {w0 : World} (b : Nat) (v : Value) (n : Nat) (xs : List Value) (acc : List UInt8) (hx : xs.take acc.length = u8s acc) (hn : acc.length ≤ n) (h0 : 0 < acc.length) (w : World) (hM : Mem S w0 w [⟨57, 2, (obj b), 1, [.pointer (some (⟨b, 0, none⟩)), (cut v (List.length acc))]⟩, ⟨5, 1, v, n, xs⟩]) :
    Calls Tryd.prog 29 #[.pointer (some ⟨b, 0, none⟩)] w (fun e w' => e = .returned (.string (sb acc)) ∧ Mem S w0 w' [⟨57, 2, (obj b), 1, [.pointer (some (⟨b, 0, none⟩)), (cut v (List.length acc))]⟩]) := by
  have h := bstr_c b (cut v acc.length) (numsOf acc) (numsOf_bd acc) (by rw [numsOf_len]; exact h0) w ((hM.cutrow 1 rfl acc.length hn).cast (by
    show [_, (⟨5, 1, cut v acc.length, acc.length, xs.take (acc.length * 1)⟩ : Row)] = _
    rw [Nat.mul_one, hx, numsOf_len, ← u8s_bytesOf (numsOf_bd acc), numsOf_bytes]))
  rw [numsOf_bytes] at h
  exact h


end Go.Proofs.YtmjkbmlcclmdkaaDoor
