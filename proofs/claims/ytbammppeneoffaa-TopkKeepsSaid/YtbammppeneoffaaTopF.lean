/-
  The walks of New, Offer, List; of the reference: New, Same.
-/
import Derived.Test.YtbammppeneoffaaTopD
import Derived.Test.YtbammppeneoffaaTopE
namespace Go.Proofs.Ytbammppeneoffaa
open Go Go.Gw Go.HitP Go.RowKit
set_option linter.unusedVariables false
set_option linter.unusedSimpArgs false

theorem sT22 : SliceT Try.prog 22 31 2 24 (.agg #[.string (sb ([])), .int .i64 0]) := ⟨by kernel_rfl, ⟨_, rfl, by kernel_rfl, by kernel_rfl, by kernel_rfl⟩, rfl, by decide⟩
theorem eT31 : EqT Try.prog 31 := ⟨by kernel_rfl, by kernel_rfl, by kernel_rfl⟩

set_option maxHeartbeats 400000 in
theorem new_c (m : Int) (w : World) :
    Calls Try.prog 8 #[.int .i64 m] w (fun e w' => (¬ (1 ≤ m ∧ m ≤ 100) ∧ e = .returned (.tuple #[.pointer none, .int .i64 (newE m)]) ∧ Mem [] w w' []) ∨ ((1 ≤ m ∧ m ≤ 100) ∧ ∃ b, e = .returned (.tuple #[.pointer (some ⟨b, 0, none⟩), .int .i64 0]) ∧ Mem [] w w' [⟨43, 3, (obj b), 1, [(.slice none 0 0), .int .i64 m, .int .i64 0]⟩, ⟨31, 2, (.slice none 0 0), (List.length ([] : List Hit)), (recs hitC ([] : List Hit))⟩])) := by
  obtain ⟨R, hR⟩ : ∃ R : Ending → World → Prop, R = (fun e w' => (¬ (1 ≤ m ∧ m ≤ 100) ∧ e = .returned (.tuple #[.pointer none, .int .i64 (newE m)]) ∧ Mem [] w w' []) ∨ ((1 ≤ m ∧ m ≤ 100) ∧ ∃ b, e = .returned (.tuple #[.pointer (some ⟨b, 0, none⟩), .int .i64 0]) ∧ Mem [] w w' [⟨43, 3, (obj b), 1, [(.slice none 0 0), .int .i64 m, .int .i64 0]⟩, ⟨31, 2, (.slice none 0 0), (List.length ([] : List Hit)), (recs hitC ([] : List Hit))⟩])) := ⟨_, rfl⟩
  rw [← hR]
  refine GoS.enter (n := 13) Try.func8 (by kernel_rfl) rfl [(0, .int .i64 m)] (by kernel_rfl) (by kernel_rfl) ?_
  have hM0 := Mem.start w
  refine GoS.run [0, 4] [.n, .n, .n, .n, .n, .n, .n, .n, .n, .n, .n, .n, .n] _ [.code (csub (cd Try.f8) [1,0,0,1]), .inBlock 0, .code (csub (cd Try.f8) [1,1])] [(0, .int .i64 m), (4, .bool (decide (m < 1)))] w (by kernel_rfl) .nil ?_
  refine GoS.cond (decide (m < 1)) [.code (csub (cd Try.f8) [1,0,0,1,0]), .inBlock 0, .code (csub (cd Try.f8) [1,1])] [.code (csub (cd Try.f8) [1,0,0,1,1]), .inBlock 0, .code (csub (cd Try.f8) [1,1])] (by kernel_rfl) (fun h1 => ?_) (fun h1 => ?_)
  ·
    have h1p : m < 1 := of_decide_eq_true h1
    refine GoS.run [2, 3] [.n, .n, .n, .n, .n] _ [.code (csub (cd Try.f8) [1,0,0,1,0,1]), .inBlock 0, .code (csub (cd Try.f8) [1,1])] [(2, .pointer none), (3, .int .i64 1)] w (by kernel_rfl) .nil ?_
    refine GoS.ret (fn := Try.f8) (v := (.tuple #[.pointer none, .int .i64 1])) Try.func8 (by kernel_rfl) ?_
    rw [hR]
    exact .inl ⟨by omega, by rw [newE_low (by omega)], hM0⟩
  ·
    have h1p : ¬ (m < 1) := of_decide_eq_false h1
    refine GoS.run [0, 7] [.n, .n, .n, .n, .n, .n] _ [.code (csub (cd Try.f8) [1,0,0,1,1,1]), .inBlock 0, .code (csub (cd Try.f8) [1,1])] [(0, .int .i64 m), (7, .bool (decide (m > 100)))] w (by kernel_rfl) .nil ?_
    refine GoS.cond (decide (m > 100)) [.code (csub (cd Try.f8) [1,0,0,1,1,1,0]), .inBlock 0, .code (csub (cd Try.f8) [1,1])] [.code (csub (cd Try.f8) [1,0,0,1,1,1,1]), .inBlock 0, .code (csub (cd Try.f8) [1,1])] (by kernel_rfl) (fun h2 => ?_) (fun h2 => ?_)
    ·
      have h2p : m > 100 := of_decide_eq_true h2
      refine GoS.run [2, 3] [.n, .n, .n, .n, .n] _ [.code (csub (cd Try.f8) [1,0,0,1,1,1,0,1]), .inBlock 0, .code (csub (cd Try.f8) [1,1])] [(2, .pointer none), (3, .int .i64 4)] w (by kernel_rfl) .nil ?_
      refine GoS.ret (fn := Try.f8) (v := (.tuple #[.pointer none, .int .i64 4])) Try.func8 (by kernel_rfl) ?_
      rw [hR]
      exact .inl ⟨by omega, by rw [newE_high (by omega)], hM0⟩
    ·
      have h2p : ¬ (m > 100) := of_decide_eq_false h2
      refine GoS.run [0] [.n] _ [.inBlock 0, .code (csub (cd Try.f8) [1,1])] [(0, .int .i64 m)] w (by kernel_rfl) .nil ?_
      obtain ⟨b3, w4, hr5, hM6⟩ := m_box (T := 43) (k := 3) (u := .agg #[.slice none 0 0, .int .i64 m, .int .i64 0]) rfl rfl hM0
      have hM7 : Mem [] w w4 [⟨43, 3, (obj b3), 1, [.slice none 0 0, .int .i64 m, .int .i64 0]⟩] := hM6
      have o8 : (Instr.box 43 (.agg #[.slice none 0 0, .int .i64 m, .int .i64 0])).run Try.prog w = .ok (.pointer (some (⟨b3, 0, none⟩))) w4 := hr5
      refine GoS.run [2, 3] [.n, .n, .n, .n, .n, .u (.pointer (some (⟨b3, 0, none⟩))) (w4), .n, .n, .n] _ [.code (csub (cd Try.f8) [1,1,1])] [(2, .pointer (some (⟨b3, 0, none⟩))), (3, .int .i64 0)] w4 (by kernel_rfl) (.cons o8 .nil) ?_
      refine GoS.ret (fn := Try.f8) (v := (.tuple #[.pointer (some (⟨b3, 0, none⟩)), .int .i64 0])) Try.func8 (by kernel_rfl) ?_
      rw [hR]
      refine .inr ⟨by omega, _, rfl, ((hM7.nilrow 31 2).perm (List.Perm.swap _ _ _))⟩

set_option maxHeartbeats 400000 in
theorem rnew_c (m : Int) (w : World) :
    Calls Try.prog 10 #[.int .i64 m] w (fun e w' => e = .returned (.int .i64 (newE m)) ∧ Mem [] w w' []) := by
  obtain ⟨R, hR⟩ : ∃ R : Ending → World → Prop, R = (fun e w' => e = .returned (.int .i64 (newE m)) ∧ Mem [] w w' []) := ⟨_, rfl⟩
  rw [← hR]
  refine GoS.enter (n := 7) Try.func10 (by kernel_rfl) rfl [(0, .int .i64 m)] (by kernel_rfl) (by kernel_rfl) ?_
  have hM0 := Mem.start w
  refine GoS.run [0, 4] [.n, .n, .n, .n, .n, .n, .n, .n, .n, .n] _ [.code (csub (cd Try.f10) [1,0,1]), .code (csub (cd Try.f10) [1,1])] [(0, .int .i64 m), (4, .bool (decide (m < 1)))] w (by kernel_rfl) .nil ?_
  refine GoS.cond (decide (m < 1)) [.code (csub (cd Try.f10) [1,0,1,0]), .code (csub (cd Try.f10) [1,1])] [.code (csub (cd Try.f10) [1,0,1,1]), .code (csub (cd Try.f10) [1,1])] (by kernel_rfl) (fun h1 => ?_) (fun h1 => ?_)
  ·
    have h1p : m < 1 := of_decide_eq_true h1
    refine GoS.run [2] [.n, .n, .n, .n] _ [.code (csub (cd Try.f10) [1,0,1,0,1]), .code (csub (cd Try.f10) [1,1])] [(2, .int .i64 1)] w (by kernel_rfl) .nil ?_
    refine GoS.ret (fn := Try.f10) (v := (.int .i64 1)) Try.func10 (by kernel_rfl) ?_
    rw [hR]
    exact ⟨by rw [newE_low (by omega)], hM0⟩
  ·
    have h1p : ¬ (m < 1) := of_decide_eq_false h1
    refine GoS.run [0] [.n] _ [.code (csub (cd Try.f10) [1,1])] [(0, .int .i64 m)] w (by kernel_rfl) .nil ?_
    refine GoS.run [6] [.n, .n, .n, .n, .n, .n] _ [.code (csub (cd Try.f10) [1,1,0,1]), .code (csub (cd Try.f10) [1,1,1])] [(6, .bool (decide (m > 100)))] w (by kernel_rfl) .nil ?_
    refine GoS.cond (decide (m > 100)) [.code (csub (cd Try.f10) [1,1,0,1,0]), .code (csub (cd Try.f10) [1,1,1])] [.code (csub (cd Try.f10) [1,1,0,1,1]), .code (csub (cd Try.f10) [1,1,1])] (by kernel_rfl) (fun h2 => ?_) (fun h2 => ?_)
    ·
      have h2p : m > 100 := of_decide_eq_true h2
      refine GoS.run [2] [.n, .n, .n, .n] _ [.code (csub (cd Try.f10) [1,1,0,1,0,1]), .code (csub (cd Try.f10) [1,1,1])] [(2, .int .i64 4)] w (by kernel_rfl) .nil ?_
      refine GoS.ret (fn := Try.f10) (v := (.int .i64 4)) Try.func10 (by kernel_rfl) ?_
      rw [hR]
      exact ⟨by rw [newE_high (by omega)], hM0⟩
    ·
      have h2p : ¬ (m > 100) := of_decide_eq_false h2
      refine GoS.run [] [.n] _ [.code (csub (cd Try.f10) [1,1,1])] [] w (by kernel_rfl) .nil ?_
      refine GoS.run [2] [.n, .n, .n, .n] _ [.code (csub (cd Try.f10) [1,1,1,1])] [(2, .int .i64 0)] w (by kernel_rfl) .nil ?_
      refine GoS.ret (fn := Try.f10) (v := (.int .i64 0)) Try.func10 (by kernel_rfl) ?_
      rw [hR]
      exact ⟨by rw [newE_ok (by omega) (by omega)], hM0⟩

set_option maxHeartbeats 4000000 in
theorem offer_c {S : List Nat} {w0 : World} (b : Nat) (v : Value) (m : Nat) (os l : List Hit) (x : Hit) (w : World) (hm : 1 ≤ m ∧ m ≤ 100) (ht : TopI m os l) (hos : os.length ≤ 1000000) (hM : Mem S w0 w [⟨43, 3, (obj b), 1, [v, .int .i64 ((m : Nat) : Int), .int .i64 (((List.length os) : Nat) : Int)]⟩, ⟨31, 2, v, (List.length l), (recs hitC l)⟩]) :
    Calls Try.prog 11 #[.pointer (some (⟨b, 0, none⟩)), .agg #[.string (sb (x.key)), .int .i64 (x.score)]] w (fun e w' => ∃ v' l', TopI m (os ++ [x]) l' ∧ e = .returned (.bool (decide (posH x (srt os) < m))) ∧ Mem S w0 w' [⟨43, 3, (obj b), 1, [v', .int .i64 ((m : Nat) : Int), .int .i64 (((List.length (os ++ [x])) : Nat) : Int)]⟩, ⟨31, 2, v', (List.length (l')), (recs hitC (l'))⟩]) := by
  have hll := top_len ht
  obtain ⟨R, hR⟩ : ∃ R : Ending → World → Prop, R = (fun e w' => ∃ v' l', TopI m (os ++ [x]) l' ∧ e = .returned (.bool (decide (posH x (srt os) < m))) ∧ Mem S w0 w' [⟨43, 3, (obj b), 1, [v', .int .i64 ((m : Nat) : Int), .int .i64 (((List.length (os ++ [x])) : Nat) : Int)]⟩, ⟨31, 2, v', (List.length (l')), (recs hitC (l'))⟩]) := ⟨_, rfl⟩
  rw [← hR]
  refine GoS.enter (n := 45) Try.func11 (by kernel_rfl) rfl [(0, .pointer (some (⟨b, 0, none⟩))), (1, .agg #[.string (sb (x.key)), .int .i64 (x.score)])] (by kernel_rfl) (by kernel_rfl) ?_
  obtain ⟨b1, w2, hr3, hM4⟩ := m_box (T := 31) (k := 2) (u := .agg #[.string (sb (x.key)), .int .i64 (x.score)]) rfl rfl hM
  have hM5 : Mem S w0 w2 [⟨31, 2, (obj b1), 1, [.string (sb (x.key)), .int .i64 (x.score)]⟩, ⟨43, 3, (obj b), 1, [v, .int .i64 ((m : Nat) : Int), .int .i64 (((List.length os) : Nat) : Int)]⟩, ⟨31, 2, v, (List.length l), (recs hitC l)⟩] := hM4
  have o10 : (Instr.box 31 (.agg #[.string (sb (x.key)), .int .i64 (x.score)])).run Try.prog w = .ok (.pointer (some (⟨b1, 0, none⟩))) w2 := hr3
  have o11 : (Instr.loadAt 3 (.pointer (some (⟨b, 2, none⟩)))).run Try.prog w2 = .ok (.int .i64 (((List.length os) : Nat) : Int)) w2 := c_load pE3 (hM5.rd 1 rfl) (cel_obj b 2) rfl
  have o12 : (binOp .add 3 (.int .i64 (((List.length os) : Nat) : Int)) (.int .i64 1)).run Try.prog w2 = .ok (.int .i64 ((((List.length os) + 1) : Nat) : Int)) w2 := f_add (by rw [show (((List.length os) : Nat) : Int) + 1 = ((((List.length os) + 1) : Nat) : Int) by omega]; exact IntWalk.i64_in _ (by omega))
  obtain ⟨w6, hr7, hM8⟩ := c_store (u := .int .i64 ((((List.length os) + 1) : Nat) : Int)) (by kernel_rfl) hM5 1 rfl (cel_obj b 2) (by decide) rfl rfl
  have hM9 : Mem S w0 w6 [⟨31, 2, (obj b1), 1, [.string (sb (x.key)), .int .i64 (x.score)]⟩, ⟨43, 3, (obj b), 1, [v, .int .i64 ((m : Nat) : Int), .int .i64 ((((List.length os) + 1) : Nat) : Int)]⟩, ⟨31, 2, v, (List.length l), (recs hitC l)⟩] := hM8
  have o13 : (Instr.storeAt 3 (.pointer (some (⟨b, 2, none⟩))) (.int .i64 ((((List.length os) + 1) : Nat) : Int))).run Try.prog w2 = .ok () w6 ∧ undef = undef := ⟨hr7, rfl⟩
  refine GoS.run [0, 3] [.n, .n, .u (.pointer (some (⟨b1, 0, none⟩))) (w2), .n, .n, .n, .n, .n, .n, .n, .n, .n, .n, .n, .n, .n, .n, .n, .h (.int .i64 (((List.length os) : Nat) : Int)), .h (.int .i64 ((((List.length os) + 1) : Nat) : Int)), .n, .n, .u (undef) (w6), .n, .n, .n] _ [.code (csub (cd Try.f11) [1,1,1,0,0]), .code (csub (cd Try.f11) [1,1,1,0,1]), .code (csub (cd Try.f11) [1,1,1,1])] [(0, .pointer (some (⟨b, 0, none⟩))), (3, .pointer (some (⟨b1, 0, none⟩)))] w6 (by kernel_rfl) (.cons o10 (.cons o11 (.cons o12 (.cons o13 .nil)))) ?_
  refine GoS.drawC (fun W_ => Kept [] w6 W_) 4 (by kernel_rfl) [0, 3, 23] [.u (.pointer (some (⟨b, 0, none⟩))) w6, .u (.pointer (some (⟨b, 0, none⟩))) w6, .u (.pointer (some (⟨b, 0, none⟩))) w6, .h (v), .h (.int .i64 (((List.length l) : Nat) : Int)), .u (.pointer (some (⟨b, 0, none⟩))) w6, .u (.pointer (some (⟨b, 0, none⟩))) w6, .u (.pointer (some (⟨b, 1, none⟩))) w6, .h (.int .i64 ((m : Nat) : Int)), .u (.bool ((((List.length l) : Nat) : Int) == ((m : Nat) : Int))) w6] (fun W_ => [(Instr.loadAt 41 (.pointer (some (⟨b, 0, none⟩)))).run Try.prog W_ = .ok (v) W_, (Builtin.len_ #[41] 3 #[v]).run Try.prog W_ = .ok (.int .i64 (((List.length l) : Nat) : Int)) W_, (Instr.loadAt 3 (.pointer (some (⟨b, 1, none⟩)))).run Try.prog W_ = .ok (.int .i64 ((m : Nat) : Int)) W_]) [(.pointer (some (⟨b, 0, none⟩)), .pointer (some (⟨b, 0, none⟩))), (.pointer (some (⟨b, 0, none⟩)), .pointer (some (⟨b, 0, none⟩))), (.pointer (some (⟨b, 0, none⟩)), .pointer (some (⟨b, 0, none⟩))), (.pointer (some (⟨b, 0, none⟩)), .pointer (some (⟨b, 0, none⟩))), (.pointer (some (⟨b, 0, none⟩)), .pointer (some (⟨b, 0, none⟩))), (.pointer (some (⟨b, 1, none⟩)), .pointer (some (⟨b, 1, none⟩))), (.bool ((((List.length l) : Nat) : Int) == ((m : Nat) : Int)), .bool ((((List.length l) : Nat) : Int) == ((m : Nat) : Int)))] [(0, .pointer (some (⟨b, 0, none⟩))), (3, .pointer (some (⟨b1, 0, none⟩))), (23, .bool ((((List.length l) : Nat) : Int) == ((m : Nat) : Int)))] (by kernel_rfl) (by kernel_rfl) ([(23, .bool ((((List.length l) : Nat) : Int) == ((m : Nat) : Int))), (22, .int .i64 ((m : Nat) : Int)), (21, .pointer (some (⟨b, 1, none⟩))), (20, .pointer (some (⟨b, 0, none⟩))), (19, .pointer (some (⟨b, 0, none⟩))), (18, .int .i64 (((List.length l) : Nat) : Int)), (17, v), (16, .pointer (some (⟨b, 0, none⟩))), (15, .pointer (some (⟨b, 0, none⟩))), (14, .pointer (some (⟨b, 0, none⟩)))] ++ [(0, .pointer (some (⟨b, 0, none⟩))), (3, .pointer (some (⟨b1, 0, none⟩)))]) (fun W_ => by kernel_rfl) (by kernel_rfl) (.cons rfl (.cons rfl (.cons rfl (.cons rfl (.cons rfl (.cons rfl (.cons rfl Obs.nil))))))) (Kept.drewN _ _ 1) (fun W_ hW_ => (.cons (c_load pE41 ((hM9.rd 1 rfl).kept0 hW_) (cel_obj b 0) rfl) (.cons (f_slen sT41 (hM9.rd 2 rfl) 3 _) (.cons (c_load pE3 ((hM9.rd 1 rfl).kept0 hW_) (cel_obj b 1) rfl) Obs.nil)))) (fun w14 hw15 => ?_)
  have hM16 := hM9.ext hw15
  refine GoS.cond ((((List.length l) : Nat) : Int) == ((m : Nat) : Int)) [.code (csub (cd Try.f11) [1,1,1,0,1,0]), .code (csub (cd Try.f11) [1,1,1,1])] [.code (csub (cd Try.f11) [1,1,1,0,1,1]), .code (csub (cd Try.f11) [1,1,1,1])] (by kernel_rfl) (fun h17 => ?_) (fun h17 => ?_)
  ·
    have h17p : (((List.length l) : Nat) : Int) = ((m : Nat) : Int) := eq_of_beq h17
    refine GoS.run [0, 3] [.n, .n] _ [.code (csub (cd Try.f11) [1,1,1,0,1,0,0,0]), .code (csub (cd Try.f11) [1,1,1,0,1,0,0,1]), .code (csub (cd Try.f11) [1,1,1,0,1,0,1]), .code (csub (cd Try.f11) [1,1,1,1])] [(0, .pointer (some (⟨b, 0, none⟩))), (3, .pointer (some (⟨b1, 0, none⟩)))] w14 (by kernel_rfl) .nil ?_
    obtain ⟨p18, hp19, hq20⟩ := rd_at (i := 0) sT41 (hM16.rd 2 rfl) 0 (by omega) (by first | omega | ((try dsimp only); omega))
    refine GoS.drawC (fun W_ => Kept [] w14 W_) 5 (by kernel_rfl) [0, 3, 32] [.h (.agg #[.string (sb (x.key)), .int .i64 (x.score)]), .u (.pointer (some (⟨b, 0, none⟩))) w14, .u (.pointer (some (⟨b, 0, none⟩))) w14, .u (.pointer (some (⟨b, 0, none⟩))) w14, .h (v), .h (.pointer (some p18)), .h (.agg #[.string (sb ((List.getD l 0 hz).key)), .int .i64 ((List.getD l 0 hz).score)]), .h (.bool (better x (List.getD l 0 hz))), .u (.bool (!(better x (List.getD l 0 hz)))) w14] (fun W_ => [(Instr.loadAt 31 (.pointer (some (⟨b1, 0, none⟩)))).run Try.prog W_ = .ok (.agg #[.string (sb (x.key)), .int .i64 (x.score)]) W_, (Instr.loadAt 41 (.pointer (some (⟨b, 0, none⟩)))).run Try.prog W_ = .ok (v) W_, (Instr.indexAt 41 (v) (.int .i64 0)).run Try.prog W_ = .ok (.pointer (some p18)) W_, (Instr.loadAt 31 (.pointer (some p18))).run Try.prog W_ = .ok (.agg #[.string (sb ((List.getD l 0 hz).key)), .int .i64 ((List.getD l 0 hz).score)]) W_, (W_ = W_) ∧ Calls Try.prog 16 #[.agg #[.string (sb (x.key)), .int .i64 (x.score)], .agg #[.string (sb ((List.getD l 0 hz).key)), .int .i64 ((List.getD l 0 hz).score)]] W_ (fun e W2 => e = .returned (.bool (better x (List.getD l 0 hz))) ∧ (fun W_ => Kept [] w14 W_) W2)]) [(.pointer (some (⟨b, 0, none⟩)), .pointer (some (⟨b, 0, none⟩))), (.pointer (some (⟨b, 0, none⟩)), .pointer (some (⟨b, 0, none⟩))), (.pointer (some (⟨b, 0, none⟩)), .pointer (some (⟨b, 0, none⟩))), (.bool (!(better x (List.getD l 0 hz))), .bool (!(better x (List.getD l 0 hz))))] [(0, .pointer (some (⟨b, 0, none⟩))), (3, .pointer (some (⟨b1, 0, none⟩))), (32, .bool (!(better x (List.getD l 0 hz))))] (by kernel_rfl) (by kernel_rfl) ([(32, .bool (!(better x (List.getD l 0 hz)))), (31, .bool (better x (List.getD l 0 hz))), (30, .agg #[.string (sb ((List.getD l 0 hz).key)), .int .i64 ((List.getD l 0 hz).score)]), (29, .pointer (some p18)), (28, v), (27, .pointer (some (⟨b, 0, none⟩))), (26, .pointer (some (⟨b, 0, none⟩))), (25, .pointer (some (⟨b, 0, none⟩))), (24, .agg #[.string (sb (x.key)), .int .i64 (x.score)])] ++ [(0, .pointer (some (⟨b, 0, none⟩))), (3, .pointer (some (⟨b1, 0, none⟩)))]) (fun W_ => by kernel_rfl) (by kernel_rfl) (.cons rfl (.cons rfl (.cons rfl (.cons rfl Obs.nil)))) (Kept.drewN _ _ 1) (fun W_ hW_ => (.cons (c_loads (ys := [.string (sb (x.key)), .int .i64 (x.score)]) aE31 ((hM16.rd 0 rfl).kept0 hW_) (cel_obj b1 0) rfl (by intro j u hj; match j, hj with | 0, hj => exact hj | 1, hj => exact hj | n + 2, hj => cases hj)) (.cons (c_load pE41 ((hM16.rd 1 rfl).kept0 hW_) (cel_obj b 0) rfl) (.cons (hq20 _ _) (.cons (r_loads (f := hitC) (l := l) aE31 ((hM16.rd 2 rfl).kept0 hW_) hitC_len hp19 (by first | omega | ((try dsimp only); omega)) hz) (.cons (⟨rfl, Calls.mono (better_c x (List.getD l 0 hz) W_) (fun e W2 h => ⟨h.1, Kept.trans hW_ h.2.kept⟩)⟩) Obs.nil)))))) (fun w21 hw22 => ?_)
    have hM23 := hM16.ext hw22
    refine GoS.cond (!(better x (List.getD l 0 hz))) [.code (csub (cd Try.f11) [1,1,1,0,1,0,0,1,0]), .code (csub (cd Try.f11) [1,1,1,0,1,0,1]), .code (csub (cd Try.f11) [1,1,1,1])] [.code (csub (cd Try.f11) [1,1,1,0,1,0,0,1,1]), .code (csub (cd Try.f11) [1,1,1,0,1,0,1]), .code (csub (cd Try.f11) [1,1,1,1])] (by kernel_rfl) (fun h24 => ?_) (fun h24 => ?_)
    ·
      have hM25 : Mem S w0 w21 [⟨43, 3, (obj b), 1, [v, .int .i64 ((m : Nat) : Int), .int .i64 ((((List.length os) + 1) : Nat) : Int)]⟩, ⟨31, 2, v, (List.length l), (recs hitC l)⟩] := hM23.sub (List.Sublist.cons _ (List.Sublist.cons_cons _ (List.Sublist.cons_cons _ (List.Sublist.refl _))))
      refine GoS.run [4] [.n, .n, .n, .n] _ [.code (csub (cd Try.f11) [1,1,1,0,1,0,0,1,0,1]), .code (csub (cd Try.f11) [1,1,1,0,1,0,1]), .code (csub (cd Try.f11) [1,1,1,1])] [(4, .bool false)] w21 (by kernel_rfl) .nil ?_
      refine GoS.ret (fn := Try.f11) (v := (.bool false)) Try.func11 (by kernel_rfl) ?_
      rw [hR]
      have hM26 : Mem S w0 w21 [⟨31, 2, v, (List.length l), (recs hitC l)⟩, ⟨43, 3, (obj b), 1, [v, .int .i64 ((m : Nat) : Int), .int .i64 ((((List.length os) + 1) : Nat) : Int)]⟩] := hM25.perm ((List.Perm.cons _ (List.Perm.refl _)).trans (List.Perm.swap _ _ _))
      have hM27 : Mem S w0 w21 [⟨43, 3, (obj b), 1, [v, .int .i64 ((m : Nat) : Int), .int .i64 ((((List.length os) + 1) : Nat) : Int)]⟩, ⟨31, 2, v, (List.length l), (recs hitC l)⟩] := hM26.perm ((List.Perm.cons _ (List.Perm.refl _)).trans (List.Perm.swap _ _ _))
      obtain ⟨q1, q2⟩ := top_no ht (by omega) (by omega) (show better x (List.getD l 0 hz) = false by simpa using h24)
      exact ⟨v, l, q2, by rw [decide_eq_false q1], ((hM27.sub (List.Sublist.cons_cons _ (List.Sublist.cons_cons _ (List.nil_sublist _)))).cast (by rw [show List.length (os ++ [x]) = List.length os + 1 by simp]))⟩
    ·
      refine GoS.run [0, 3] [.n] _ [.code (csub (cd Try.f11) [1,1,1,0,1,0,1]), .code (csub (cd Try.f11) [1,1,1,1])] [(0, .pointer (some (⟨b, 0, none⟩))), (3, .pointer (some (⟨b1, 0, none⟩)))] w21 (by kernel_rfl) .nil ?_
      refine GoS.run [0, 3, 36] [.n, .n, .n, .n, .n] _ [.inRegion (cops (csub (cd Try.f11) [1,1,1,0,1,0,1])) [4], .code (csub (cd Try.f11) [1,1,1,1])] [(0, .pointer (some (⟨b, 0, none⟩))), (3, .pointer (some (⟨b1, 0, none⟩))), (36, (.iface 45 (.pointer (some (⟨b, 0, none⟩)))))] w21 (by kernel_rfl) .nil ?_
      have hM28 : Mem S w0 w21 [⟨31, 2, v, (List.length l), (recs hitC l)⟩, ⟨31, 2, (obj b1), 1, [.string (sb (x.key)), .int .i64 (x.score)]⟩, ⟨43, 3, (obj b), 1, [v, .int .i64 ((m : Nat) : Int), .int .i64 ((((List.length os) + 1) : Nat) : Int)]⟩] := hM23.perm ((List.Perm.cons _ ((List.Perm.cons _ (List.Perm.refl _)).trans (List.Perm.swap _ _ _))).trans (List.Perm.swap _ _ _))
      have hM29 : Mem S w0 w21 [⟨43, 3, (obj b), 1, [v, .int .i64 ((m : Nat) : Int), .int .i64 ((((List.length os) + 1) : Nat) : Int)]⟩, ⟨31, 2, v, (List.length l), (recs hitC l)⟩, ⟨31, 2, (obj b1), 1, [.string (sb (x.key)), .int .i64 (x.score)]⟩] := hM28.perm ((List.Perm.cons _ ((List.Perm.cons _ (List.Perm.refl _)).trans (List.Perm.swap _ _ _))).trans (List.Perm.swap _ _ _))
      refine GoS.call [0, 3] 17 #[(.iface 45 (.pointer (some (⟨b, 0, none⟩))))] (some 37) [.inRegion (cops (csub (cd Try.f11) [1,1,1,0,1,0,1])) [], .code (csub (cd Try.f11) [1,1,1,1])] [(0, .pointer (some (⟨b, 0, none⟩))), (3, .pointer (some (⟨b1, 0, none⟩)))] (by kernel_rfl) (pop_c b v ((m : Nat) : Int) ((((List.length os) + 1) : Nat) : Int) l w21 ht.1 (by omega) (by omega) (Mem.lend (R := [⟨43, 3, (obj b), 1, [v, .int .i64 ((m : Nat) : Int), .int .i64 ((((List.length os) + 1) : Nat) : Int)]⟩, ⟨31, 2, v, (List.length l), (recs hitC l)⟩]) (L := [⟨31, 2, (obj b1), 1, [.string (sb (x.key)), .int .i64 (x.score)]⟩]) hM29)) ?_
      rintro _ w30 ⟨v32, p33, u34, rfl, hp35, hh36, m31⟩
      refine ⟨_, rfl, ?_⟩
      have hM37 : Mem S w0 w30 [⟨43, 3, (obj b), 1, [v32, .int .i64 ((m : Nat) : Int), .int .i64 ((((List.length os) + 1) : Nat) : Int)]⟩, ⟨31, 2, v32, (List.length p33), (recs hitC p33)⟩, ⟨31, 2, (obj b1), 1, [.string (sb (x.key)), .int .i64 (x.score)]⟩] := Mem.back (R := [⟨43, 3, (obj b), 1, [v, .int .i64 ((m : Nat) : Int), .int .i64 ((((List.length os) + 1) : Nat) : Int)]⟩, ⟨31, 2, v, (List.length l), (recs hitC l)⟩]) (L := [⟨31, 2, (obj b1), 1, [.string (sb (x.key)), .int .i64 (x.score)]⟩]) hM29 m31
      have hpl38 : p33.length + 1 = l.length := by have q := hp35.length_eq; simpa using q
      refine GoS.run [0, 3] [.n] _ [.code (csub (cd Try.f11) [1,1,1,1])] [(0, .pointer (some (⟨b, 0, none⟩))), (3, .pointer (some (⟨b1, 0, none⟩)))] w30 (by kernel_rfl) .nil ?_
      refine GoS.run [0, 3] [.n] _ [.code (csub (cd Try.f11) [1,1,1,1,0]), .code (csub (cd Try.f11) [1,1,1,1,1])] [(0, .pointer (some (⟨b, 0, none⟩))), (3, .pointer (some (⟨b1, 0, none⟩)))] w30 (by kernel_rfl) .nil ?_
      obtain ⟨w39, hw40⟩ : ∃ w_, (w30).drewN 1 = w_ := ⟨_, rfl⟩
      refine GoS.held (fun W_ => Mem S w0 W_ [⟨31, 2, (obj b1), 1, [.string (sb (x.key)), .int .i64 (x.score)]⟩]) [] 8 (by kernel_rfl) (by kernel_rfl) 7 (by kernel_rfl) ?_
      rw [hw40]
      have hM41 : Mem S w0 w39 [⟨43, 3, (obj b), 1, [v32, .int .i64 ((m : Nat) : Int), .int .i64 ((((List.length os) + 1) : Nat) : Int)]⟩, ⟨31, 2, v32, (List.length p33), (recs hitC p33)⟩, ⟨31, 2, (obj b1), 1, [.string (sb (x.key)), .int .i64 (x.score)]⟩] := hw40 ▸ hM37.ext (Kept.drewN _ _ 1)
      have hS42 : Mem S w0 w39 [⟨31, 2, (obj b1), 1, [.string (sb (x.key)), .int .i64 (x.score)]⟩] := hM41.sub (List.Sublist.cons _ (List.Sublist.cons _ (List.Sublist.cons_cons _ (List.Sublist.refl _))))
      refine GoH.takeV 0 (.pointer (some (⟨b, 0, none⟩))) (.pointer (some (⟨b, 0, none⟩))) (some 38) (fun W_ => by kernel_rfl) rfl hS42 ?_
      refine GoH.takeV 1 (.pointer (some (⟨b, 0, none⟩))) (.pointer (some (⟨b, 0, none⟩))) (some 39) (fun W_ => by kernel_rfl) rfl hS42 ?_
      refine GoH.takeV 2 (.pointer (some (⟨b, 0, none⟩))) (.pointer (some (⟨b, 0, none⟩))) (some 40) (fun W_ => by kernel_rfl) rfl hS42 ?_
      refine GoH.takeV 3 ((.iface 45 (.pointer (some (⟨b, 0, none⟩))))) ((.iface 45 (.pointer (some (⟨b, 0, none⟩))))) (some 41) (fun W_ => by kernel_rfl) rfl hS42 ?_
      refine GoH.takeF 4 (.agg #[.string (sb (x.key)), .int .i64 (x.score)]) (fun W_ => (Instr.loadAt 31 (.pointer (some (⟨b1, 0, none⟩)))).run Try.prog W_ = .ok (.agg #[.string (sb (x.key)), .int .i64 (x.score)]) W_) (some 42) (fun W_ => by kernel_rfl) (fun W_ hW_ => c_loads (ys := [.string (sb (x.key)), .int .i64 (x.score)]) aE31 (hW_.rd 0 rfl) (cel_obj b1 0) rfl (by intro j u hj; match j, hj with | 0, hj => exact hj | 1, hj => exact hj | n + 2, hj => cases hj)) hS42 ?_
      refine GoH.takeV 5 ((.iface 31 (.agg #[.string (sb (x.key)), .int .i64 (x.score)]))) ((.iface 31 (.agg #[.string (sb (x.key)), .int .i64 (x.score)]))) (some 43) (fun W_ => by kernel_rfl) rfl hS42 ?_
      have hM43 : Mem S w0 w39 [⟨31, 2, v32, (List.length p33), (recs hitC p33)⟩, ⟨43, 3, (obj b), 1, [v32, .int .i64 ((m : Nat) : Int), .int .i64 ((((List.length os) + 1) : Nat) : Int)]⟩, ⟨31, 2, (obj b1), 1, [.string (sb (x.key)), .int .i64 (x.score)]⟩] := hM41.perm ((List.Perm.cons _ (List.Perm.refl _)).trans (List.Perm.swap _ _ _))
      have hM44 : Mem S w0 w39 [⟨43, 3, (obj b), 1, [v32, .int .i64 ((m : Nat) : Int), .int .i64 ((((List.length os) + 1) : Nat) : Int)]⟩, ⟨31, 2, v32, (List.length p33), (recs hitC p33)⟩, ⟨31, 2, (obj b1), 1, [.string (sb (x.key)), .int .i64 (x.score)]⟩] := hM43.perm ((List.Perm.cons _ (List.Perm.refl _)).trans (List.Perm.swap _ _ _))
      refine GoH.callF 6 18 #[(.iface 45 (.pointer (some (⟨b, 0, none⟩)))), (.iface 31 (.agg #[.string (sb (x.key)), .int .i64 (x.score)]))] (some 44) (by kernel_rfl) (push_c b v32 ((m : Nat) : Int) ((((List.length os) + 1) : Nat) : Int) p33 x w39 hh36 (by omega) (Mem.lend (R := [⟨43, 3, (obj b), 1, [v32, .int .i64 ((m : Nat) : Int), .int .i64 ((((List.length os) + 1) : Nat) : Int)]⟩, ⟨31, 2, v32, (List.length p33), (recs hitC p33)⟩]) (L := [⟨31, 2, (obj b1), 1, [.string (sb (x.key)), .int .i64 (x.score)]⟩]) hM44)) ?_
      rintro _ w45 ⟨v47, l48, rfl, hp49, hh50, m46⟩
      have hM51 : Mem S w0 w45 [⟨43, 3, (obj b), 1, [v47, .int .i64 ((m : Nat) : Int), .int .i64 ((((List.length os) + 1) : Nat) : Int)]⟩, ⟨31, 2, v47, (List.length l48), (recs hitC l48)⟩, ⟨31, 2, (obj b1), 1, [.string (sb (x.key)), .int .i64 (x.score)]⟩] := Mem.back (R := [⟨43, 3, (obj b), 1, [v32, .int .i64 ((m : Nat) : Int), .int .i64 ((((List.length os) + 1) : Nat) : Int)]⟩, ⟨31, 2, v32, (List.length p33), (recs hitC p33)⟩]) (L := [⟨31, 2, (obj b1), 1, [.string (sb (x.key)), .int .i64 (x.score)]⟩]) hM44 m46
      have hS52 : Mem S w0 w45 [⟨31, 2, (obj b1), 1, [.string (sb (x.key)), .int .i64 (x.score)]⟩] := hM51.sub (List.Sublist.cons _ (List.Sublist.cons _ (List.Sublist.cons_cons _ (List.Sublist.refl _))))
      refine ⟨.tuple #[], rfl, .inr hS52, ?_⟩
      refine GoH.done [] [] (by kernel_rfl) (by kernel_rfl) ?_
      have hM53 : Mem S w0 w45 [⟨43, 3, (obj b), 1, [v47, .int .i64 ((m : Nat) : Int), .int .i64 ((((List.length os) + 1) : Nat) : Int)]⟩, ⟨31, 2, v47, (List.length l48), (recs hitC l48)⟩] := hM51.sub (List.Sublist.cons_cons _ (List.Sublist.cons_cons _ (List.Sublist.cons _ (List.Sublist.refl _))))
      refine GoS.run [4] [.n, .n, .n, .n] _ [.code (csub (cd Try.f11) [1,1,1,1,1,1])] [(4, .bool true)] w45 (by kernel_rfl) .nil ?_
      refine GoS.ret (fn := Try.f11) (v := (.bool true)) Try.func11 (by kernel_rfl) ?_
      rw [hR]
      have hM54 : Mem S w0 w45 [⟨31, 2, v47, (List.length l48), (recs hitC l48)⟩, ⟨43, 3, (obj b), 1, [v47, .int .i64 ((m : Nat) : Int), .int .i64 ((((List.length os) + 1) : Nat) : Int)]⟩] := hM53.perm ((List.Perm.cons _ (List.Perm.refl _)).trans (List.Perm.swap _ _ _))
      have hM55 : Mem S w0 w45 [⟨43, 3, (obj b), 1, [v47, .int .i64 ((m : Nat) : Int), .int .i64 ((((List.length os) + 1) : Nat) : Int)]⟩, ⟨31, 2, v47, (List.length l48), (recs hitC l48)⟩] := hM54.perm ((List.Perm.cons _ (List.Perm.refl _)).trans (List.Perm.swap _ _ _))
      obtain ⟨q1, q2⟩ := top_yes ht (by omega) (by omega) (show better x (List.getD l 0 hz) = true by simpa using h24)
      exact ⟨v47, l48, q2 _ _ hp35 hh50 hp49, by rw [decide_eq_true q1], ((hM55.sub (List.Sublist.cons_cons _ (List.Sublist.cons_cons _ (List.nil_sublist _)))).cast (by rw [show List.length (os ++ [x]) = List.length os + 1 by simp]))⟩
  ·
    have h17p : ¬ ((((List.length l) : Nat) : Int) = ((m : Nat) : Int)) := p_ne h17
    refine GoS.run [0, 3] [.n] _ [.code (csub (cd Try.f11) [1,1,1,1])] [(0, .pointer (some (⟨b, 0, none⟩))), (3, .pointer (some (⟨b1, 0, none⟩)))] w14 (by kernel_rfl) .nil ?_
    refine GoS.run [0, 3] [.n] _ [.code (csub (cd Try.f11) [1,1,1,1,0]), .code (csub (cd Try.f11) [1,1,1,1,1])] [(0, .pointer (some (⟨b, 0, none⟩))), (3, .pointer (some (⟨b1, 0, none⟩)))] w14 (by kernel_rfl) .nil ?_
    obtain ⟨w56, hw57⟩ : ∃ w_, (w14).drewN 1 = w_ := ⟨_, rfl⟩
    refine GoS.held (fun W_ => Mem S w0 W_ [⟨31, 2, (obj b1), 1, [.string (sb (x.key)), .int .i64 (x.score)]⟩]) [] 8 (by kernel_rfl) (by kernel_rfl) 7 (by kernel_rfl) ?_
    rw [hw57]
    have hM58 : Mem S w0 w56 [⟨31, 2, (obj b1), 1, [.string (sb (x.key)), .int .i64 (x.score)]⟩, ⟨43, 3, (obj b), 1, [v, .int .i64 ((m : Nat) : Int), .int .i64 ((((List.length os) + 1) : Nat) : Int)]⟩, ⟨31, 2, v, (List.length l), (recs hitC l)⟩] := hw57 ▸ hM16.ext (Kept.drewN _ _ 1)
    have hS59 : Mem S w0 w56 [⟨31, 2, (obj b1), 1, [.string (sb (x.key)), .int .i64 (x.score)]⟩] := hM58.sub (List.Sublist.cons_cons _ (List.Sublist.cons _ (List.Sublist.cons _ (List.Sublist.refl _))))
    refine GoH.takeV 0 (.pointer (some (⟨b, 0, none⟩))) (.pointer (some (⟨b, 0, none⟩))) (some 38) (fun W_ => by kernel_rfl) rfl hS59 ?_
    refine GoH.takeV 1 (.pointer (some (⟨b, 0, none⟩))) (.pointer (some (⟨b, 0, none⟩))) (some 39) (fun W_ => by kernel_rfl) rfl hS59 ?_
    refine GoH.takeV 2 (.pointer (some (⟨b, 0, none⟩))) (.pointer (some (⟨b, 0, none⟩))) (some 40) (fun W_ => by kernel_rfl) rfl hS59 ?_
    refine GoH.takeV 3 ((.iface 45 (.pointer (some (⟨b, 0, none⟩))))) ((.iface 45 (.pointer (some (⟨b, 0, none⟩))))) (some 41) (fun W_ => by kernel_rfl) rfl hS59 ?_
    refine GoH.takeF 4 (.agg #[.string (sb (x.key)), .int .i64 (x.score)]) (fun W_ => (Instr.loadAt 31 (.pointer (some (⟨b1, 0, none⟩)))).run Try.prog W_ = .ok (.agg #[.string (sb (x.key)), .int .i64 (x.score)]) W_) (some 42) (fun W_ => by kernel_rfl) (fun W_ hW_ => c_loads (ys := [.string (sb (x.key)), .int .i64 (x.score)]) aE31 (hW_.rd 0 rfl) (cel_obj b1 0) rfl (by intro j u hj; match j, hj with | 0, hj => exact hj | 1, hj => exact hj | n + 2, hj => cases hj)) hS59 ?_
    refine GoH.takeV 5 ((.iface 31 (.agg #[.string (sb (x.key)), .int .i64 (x.score)]))) ((.iface 31 (.agg #[.string (sb (x.key)), .int .i64 (x.score)]))) (some 43) (fun W_ => by kernel_rfl) rfl hS59 ?_
    have hM60 : Mem S w0 w56 [⟨31, 2, v, (List.length l), (recs hitC l)⟩, ⟨31, 2, (obj b1), 1, [.string (sb (x.key)), .int .i64 (x.score)]⟩, ⟨43, 3, (obj b), 1, [v, .int .i64 ((m : Nat) : Int), .int .i64 ((((List.length os) + 1) : Nat) : Int)]⟩] := hM58.perm ((List.Perm.cons _ ((List.Perm.cons _ (List.Perm.refl _)).trans (List.Perm.swap _ _ _))).trans (List.Perm.swap _ _ _))
    have hM61 : Mem S w0 w56 [⟨43, 3, (obj b), 1, [v, .int .i64 ((m : Nat) : Int), .int .i64 ((((List.length os) + 1) : Nat) : Int)]⟩, ⟨31, 2, v, (List.length l), (recs hitC l)⟩, ⟨31, 2, (obj b1), 1, [.string (sb (x.key)), .int .i64 (x.score)]⟩] := hM60.perm ((List.Perm.cons _ ((List.Perm.cons _ (List.Perm.refl _)).trans (List.Perm.swap _ _ _))).trans (List.Perm.swap _ _ _))
    refine GoH.callF 6 18 #[(.iface 45 (.pointer (some (⟨b, 0, none⟩)))), (.iface 31 (.agg #[.string (sb (x.key)), .int .i64 (x.score)]))] (some 44) (by kernel_rfl) (push_c b v ((m : Nat) : Int) ((((List.length os) + 1) : Nat) : Int) l x w56 ht.1 (by omega) (Mem.lend (R := [⟨43, 3, (obj b), 1, [v, .int .i64 ((m : Nat) : Int), .int .i64 ((((List.length os) + 1) : Nat) : Int)]⟩, ⟨31, 2, v, (List.length l), (recs hitC l)⟩]) (L := [⟨31, 2, (obj b1), 1, [.string (sb (x.key)), .int .i64 (x.score)]⟩]) hM61)) ?_
    rintro _ w62 ⟨v64, l65, rfl, hp66, hh67, m63⟩
    have hM68 : Mem S w0 w62 [⟨43, 3, (obj b), 1, [v64, .int .i64 ((m : Nat) : Int), .int .i64 ((((List.length os) + 1) : Nat) : Int)]⟩, ⟨31, 2, v64, (List.length l65), (recs hitC l65)⟩, ⟨31, 2, (obj b1), 1, [.string (sb (x.key)), .int .i64 (x.score)]⟩] := Mem.back (R := [⟨43, 3, (obj b), 1, [v, .int .i64 ((m : Nat) : Int), .int .i64 ((((List.length os) + 1) : Nat) : Int)]⟩, ⟨31, 2, v, (List.length l), (recs hitC l)⟩]) (L := [⟨31, 2, (obj b1), 1, [.string (sb (x.key)), .int .i64 (x.score)]⟩]) hM61 m63
    have hS69 : Mem S w0 w62 [⟨31, 2, (obj b1), 1, [.string (sb (x.key)), .int .i64 (x.score)]⟩] := hM68.sub (List.Sublist.cons _ (List.Sublist.cons _ (List.Sublist.cons_cons _ (List.Sublist.refl _))))
    refine ⟨.tuple #[], rfl, .inr hS69, ?_⟩
    refine GoH.done [] [] (by kernel_rfl) (by kernel_rfl) ?_
    have hM70 : Mem S w0 w62 [⟨43, 3, (obj b), 1, [v64, .int .i64 ((m : Nat) : Int), .int .i64 ((((List.length os) + 1) : Nat) : Int)]⟩, ⟨31, 2, v64, (List.length l65), (recs hitC l65)⟩] := hM68.sub (List.Sublist.cons_cons _ (List.Sublist.cons_cons _ (List.Sublist.cons _ (List.Sublist.refl _))))
    refine GoS.run [4] [.n, .n, .n, .n] _ [.code (csub (cd Try.f11) [1,1,1,1,1,1])] [(4, .bool true)] w62 (by kernel_rfl) .nil ?_
    refine GoS.ret (fn := Try.f11) (v := (.bool true)) Try.func11 (by kernel_rfl) ?_
    rw [hR]
    have hM71 : Mem S w0 w62 [⟨31, 2, v64, (List.length l65), (recs hitC l65)⟩, ⟨43, 3, (obj b), 1, [v64, .int .i64 ((m : Nat) : Int), .int .i64 ((((List.length os) + 1) : Nat) : Int)]⟩] := hM70.perm ((List.Perm.cons _ (List.Perm.refl _)).trans (List.Perm.swap _ _ _))
    have hM72 : Mem S w0 w62 [⟨43, 3, (obj b), 1, [v64, .int .i64 ((m : Nat) : Int), .int .i64 ((((List.length os) + 1) : Nat) : Int)]⟩, ⟨31, 2, v64, (List.length l65), (recs hitC l65)⟩] := hM71.perm ((List.Perm.cons _ (List.Perm.refl _)).trans (List.Perm.swap _ _ _))
    obtain ⟨q1, q2⟩ := top_room (h := x) ht (by omega)
    exact ⟨v64, l65, q2 _ hh67 hp66, by rw [decide_eq_true q1], ((hM72.sub (List.Sublist.cons_cons _ (List.Sublist.cons_cons _ (List.nil_sublist _)))).cast (by rw [show List.length (os ++ [x]) = List.length os + 1 by simp]))⟩

set_option maxHeartbeats 2000000 in
theorem list_c {S : List Nat} {w0 : World} (b : Nat) (v : Value) (ms sn : Int) (l : List Hit) (w : World) (hl : l.length ≤ 1000000) (hM : Mem S w0 w [⟨43, 3, (obj b), 1, [v, .int .i64 ms, .int .i64 sn]⟩, ⟨31, 2, v, (List.length l), (recs hitC l)⟩]) :
    Calls Try.prog 14 #[.pointer (some (⟨b, 0, none⟩))] w (fun e w' => ∃ u, e = .returned (.tuple #[u, .int .i64 sn]) ∧ Mem S w0 w' [⟨31, 2, u, (List.length (srt l)), (recs hitC (srt l))⟩, ⟨43, 3, (obj b), 1, [v, .int .i64 ms, .int .i64 sn]⟩, ⟨31, 2, v, (List.length l), (recs hitC l)⟩]) := by
  obtain ⟨R, hR⟩ : ∃ R : Ending → World → Prop, R = (fun e w' => ∃ u, e = .returned (.tuple #[u, .int .i64 sn]) ∧ Mem S w0 w' [⟨31, 2, u, (List.length (srt l)), (recs hitC (srt l))⟩, ⟨43, 3, (obj b), 1, [v, .int .i64 ms, .int .i64 sn]⟩, ⟨31, 2, v, (List.length l), (recs hitC l)⟩]) := ⟨_, rfl⟩
  rw [← hR]
  refine GoS.enter (n := 20) Try.func14 (by kernel_rfl) rfl [(0, .pointer (some (⟨b, 0, none⟩)))] (by kernel_rfl) (by kernel_rfl) ?_
  obtain ⟨v1, w2, hr3, hM4⟩ := m_lit sT22 hM (n := 0) (parts := #[]) (cs := []) (by decide) (by kernel_rfl) rfl
  have o11 : (Instr.buildSlice 22 0 #[]).run Try.prog w = .ok v1 w2 := hr3
  have o12 : (Instr.loadAt 41 (.pointer (some (⟨b, 0, none⟩)))).run Try.prog w2 = .ok (v) w2 := c_load pE41 (hM4.rd 1 rfl) (cel_obj b 0) rfl
  obtain ⟨v5, w6, hr7, hM8⟩ := m_append sT22 hM4 0 rfl (hM4.rd 2 rfl) (recs_ones hitC_one l) (by first | omega | ((try dsimp only); omega) | ((try dsimp only); simp only [List.length_nil]; omega)) (by first | omega | ((try dsimp only); omega) | ((try dsimp only); simp only [List.length_nil]; omega)) 22
  have hr9 := (append_ty Try.underlying22 Try.underlying41 22 v1 v w2).trans hr7
  have hM10 : Mem S w0 w6 [⟨31, 2, v5, (List.length l), (recs hitC l)⟩, ⟨43, 3, (obj b), 1, [v, .int .i64 ms, .int .i64 sn]⟩, ⟨31, 2, v, (List.length l), (recs hitC l)⟩] := hM8.cast (by simp [ivals, svals, bvals, nvals, u8s, Nat.add_assoc, recs, hitC])
  have o13 : (Builtin.append_ #[22, 41] 22 #[v1, v]).run Try.prog w2 = .ok v5 w6 := hr9
  refine GoS.run [0, 4, 13] [.n, .n, .n, .n, .n, .n, .n, .n, .n, .n, .n, .n, .n, .n, .n, .u (v1) (w2), .n, .n, .n, .h (v), .u (v5) (w6), .n, .n, .n, .n, .n] _ [.inRegion (cops (csub (cd Try.f14) [1,1,1,0])) [1], .code (csub (cd Try.f14) [1,1,1,1])] [(0, .pointer (some (⟨b, 0, none⟩))), (4, v5), (13, v5)] w6 (by kernel_rfl) (.cons o11 (.cons o12 (.cons o13 .nil))) ?_
  refine GoS.call [0, 4] 19 #[v5, .func (.func 20) #[] #[]] (some 14) [.inRegion (cops (csub (cd Try.f14) [1,1,1,0])) [], .code (csub (cd Try.f14) [1,1,1,1])] [(0, .pointer (some (⟨b, 0, none⟩))), (4, v5)] (by kernel_rfl) (sort_c v5 l [⟨43, 3, (obj b), 1, [v, .int .i64 ms, .int .i64 sn]⟩, ⟨31, 2, v, (List.length l), (recs hitC l)⟩] (by omega) hM10) ?_
  rintro _ w14 ⟨rfl, hM15⟩
  refine ⟨_, rfl, ?_⟩
  refine GoS.run [0, 4] [.n, .n] _ [.code (csub (cd Try.f14) [1,1,1,1,0]), .code (csub (cd Try.f14) [1,1,1,1,1])] [(0, .pointer (some (⟨b, 0, none⟩))), (4, v5)] w14 (by kernel_rfl) .nil ?_
  refine GoS.drawC (fun W_ => Kept [] w14 W_) 5 (by kernel_rfl) [2, 3] [.u (v5) w14, .u (.pointer (some (⟨b, 0, none⟩))) w14, .u (.pointer (some (⟨b, 0, none⟩))) w14, .u (.pointer (some (⟨b, 2, none⟩))) w14, .h (.int .i64 sn), .u (v5) w14, .u (.int .i64 sn) w14] (fun W_ => [(Instr.loadAt 3 (.pointer (some (⟨b, 2, none⟩)))).run Try.prog W_ = .ok (.int .i64 sn) W_]) [(v5, v5), (.pointer (some (⟨b, 0, none⟩)), .pointer (some (⟨b, 0, none⟩))), (.pointer (some (⟨b, 0, none⟩)), .pointer (some (⟨b, 0, none⟩))), (.pointer (some (⟨b, 2, none⟩)), .pointer (some (⟨b, 2, none⟩))), (v5, v5), (.int .i64 sn, .int .i64 sn)] [(2, v5), (3, .int .i64 sn)] (by kernel_rfl) (by kernel_rfl) ([(3, .int .i64 sn), (2, v5), (19, .int .i64 sn), (18, .pointer (some (⟨b, 2, none⟩))), (17, .pointer (some (⟨b, 0, none⟩))), (16, .pointer (some (⟨b, 0, none⟩))), (15, v5)] ++ [(0, .pointer (some (⟨b, 0, none⟩))), (4, v5)]) (fun W_ => by kernel_rfl) (by kernel_rfl) (.cons rfl (.cons rfl (.cons rfl (.cons rfl (.cons rfl (.cons rfl Obs.nil)))))) (Kept.drewN _ _ 1) (fun W_ hW_ => (.cons (c_load pE3 ((hM15.rd 1 rfl).kept0 hW_) (cel_obj b 2) rfl) Obs.nil)) (fun w16 hw17 => ?_)
  have hM18 := hM15.ext hw17
  refine GoS.ret (fn := Try.f14) (v := (.tuple #[v5, .int .i64 sn])) Try.func14 (by kernel_rfl) ?_
  rw [hR]
  have hM19 : Mem S w0 w16 [⟨31, 2, v, (List.length l), (recs hitC l)⟩, ⟨31, 2, v5, (List.length (srt l)), (recs hitC (srt l))⟩, ⟨43, 3, (obj b), 1, [v, .int .i64 ms, .int .i64 sn]⟩] := hM18.perm ((List.Perm.cons _ ((List.Perm.cons _ (List.Perm.refl _)).trans (List.Perm.swap _ _ _))).trans (List.Perm.swap _ _ _))
  have hM20 : Mem S w0 w16 [⟨43, 3, (obj b), 1, [v, .int .i64 ms, .int .i64 sn]⟩, ⟨31, 2, v, (List.length l), (recs hitC l)⟩, ⟨31, 2, v5, (List.length (srt l)), (recs hitC (srt l))⟩] := hM19.perm ((List.Perm.cons _ ((List.Perm.cons _ (List.Perm.refl _)).trans (List.Perm.swap _ _ _))).trans (List.Perm.swap _ _ _))
  have hM21 : Mem S w0 w16 [⟨31, 2, v5, (List.length (srt l)), (recs hitC (srt l))⟩, ⟨43, 3, (obj b), 1, [v, .int .i64 ms, .int .i64 sn]⟩, ⟨31, 2, v, (List.length l), (recs hitC l)⟩] := hM20.perm ((List.Perm.cons _ ((List.Perm.cons _ (List.Perm.refl _)).trans (List.Perm.swap _ _ _))).trans (List.Perm.swap _ _ _))
  exact ⟨v5, rfl, (hM21.sub (List.Sublist.cons_cons _ (List.Sublist.cons_cons _ (List.Sublist.cons_cons _ (List.nil_sublist _)))))⟩

set_option maxHeartbeats 400000 in
theorem same_L {w0 : World} (u v : Value) (a b : List Hit) (hu : Rd w0 2 u a.length (recs hitC a)) (hv : Rd w0 2 v b.length (recs hitC b)) (hab : a.length = b.length) (R : Ending → World → Prop) (hR : R = (fun e w' => e = .returned (.bool (decide (a = b))) ∧ Mem [] w0 w' [])) : ∀ (N : Nat) (k : Nat) (w : World) (hk : k ≤ a.length) (hw : ∀ j, j < k → a.getD j hz = b.getD j hz) (hM : Mem [] w0 w []) (hN : a.length - k < N), GoS Try.prog 15 R 26 [.code (csub (cd Try.f15) [1,1,0,1,0,0]), .inLoop (csub (cd Try.f15) [1,1,0,1,0,0]), .inBlock 0, .code (csub (cd Try.f15) [1,1,1])] [(0, u), (1, v), (5, .int .i64 ((k : Nat) : Int))] w := by
  intro N
  induction N with
  | zero => intro k w hk hw hM hN; exact absurd hN (Nat.not_lt_zero _)
  | succ N ih =>
    intro k w hk hw hM hN
    have hal := rd_len hu
    have hbl := rd_len hv
    simp only [maxLen] at hal hbl
    have o1 : (Builtin.len_ #[22] 3 #[u]).run Try.prog w = .ok (.int .i64 (((List.length a) : Nat) : Int)) w := f_slen sT22 (hu.kept0 hM.kept) 3 _
    refine GoS.run [0, 1, 5, 14] [.n, .n, .n, .n, .n, .h (.int .i64 (((List.length a) : Nat) : Int)), .n, .n] _ [.code (csub (cd Try.f15) [1,1,0,1,0,0,0,1]), .code (csub (cd Try.f15) [1,1,0,1,0,0,1]), .inLoop (csub (cd Try.f15) [1,1,0,1,0,0]), .inBlock 0, .code (csub (cd Try.f15) [1,1,1])] [(0, u), (1, v), (5, .int .i64 ((k : Nat) : Int)), (14, .bool (decide (((k : Nat) : Int) < (((List.length a) : Nat) : Int))))] w (by kernel_rfl) (.cons o1 .nil) ?_
    refine GoS.cond (decide (((k : Nat) : Int) < (((List.length a) : Nat) : Int))) [.code (csub (cd Try.f15) [1,1,0,1,0,0,0,1,0]), .code (csub (cd Try.f15) [1,1,0,1,0,0,1]), .inLoop (csub (cd Try.f15) [1,1,0,1,0,0]), .inBlock 0, .code (csub (cd Try.f15) [1,1,1])] [.code (csub (cd Try.f15) [1,1,0,1,0,0,0,1,1]), .code (csub (cd Try.f15) [1,1,0,1,0,0,1]), .inLoop (csub (cd Try.f15) [1,1,0,1,0,0]), .inBlock 0, .code (csub (cd Try.f15) [1,1,1])] (by kernel_rfl) (fun h2 => ?_) (fun h2 => ?_)
    ·
      have h2p : ((k : Nat) : Int) < (((List.length a) : Nat) : Int) := of_decide_eq_true h2
      refine GoS.run [0, 1, 5] [.n] _ [.code (csub (cd Try.f15) [1,1,0,1,0,0,1]), .inLoop (csub (cd Try.f15) [1,1,0,1,0,0]), .inBlock 0, .code (csub (cd Try.f15) [1,1,1])] [(0, u), (1, v), (5, .int .i64 ((k : Nat) : Int))] w (by kernel_rfl) .nil ?_
      refine GoS.run [0, 1, 5] [.n, .n, .n] _ [.code (csub (cd Try.f15) [1,1,0,1,0,0,1,0,0,0]), .code (csub (cd Try.f15) [1,1,0,1,0,0,1,0,0,1]), .inBlock 1, .code (csub (cd Try.f15) [1,1,0,1,0,0,1,1]), .inLoop (csub (cd Try.f15) [1,1,0,1,0,0]), .inBlock 0, .code (csub (cd Try.f15) [1,1,1])] [(0, u), (1, v), (5, .int .i64 ((k : Nat) : Int))] w (by kernel_rfl) .nil ?_
      obtain ⟨p3, hp4, hq5⟩ := rd_at (i := ((k : Nat) : Int)) sT22 (hu.kept0 hM.kept) k (by omega) (by first | omega | (dsimp only; omega))
      obtain ⟨p6, hp7, hq8⟩ := rd_at (i := ((k : Nat) : Int)) sT22 (hv.kept0 hM.kept) k (by omega) (by first | omega | (dsimp only; omega))
      refine GoS.drawC (fun W_ => Kept [] w W_) 6 (by kernel_rfl) [0, 1, 5, 25] [.u (u) w, .u (.int .i64 ((k : Nat) : Int)) w, .h (.pointer (some p3)), .h (.agg #[.string (sb ((List.getD a k hz).key)), .int .i64 ((List.getD a k hz).score)]), .u (v) w, .u (.int .i64 ((k : Nat) : Int)) w, .h (.pointer (some p6)), .h (.agg #[.string (sb ((List.getD b k hz).key)), .int .i64 ((List.getD b k hz).score)]), .h (.bool (!((decide (((List.getD a k hz).key) = ((List.getD b k hz).key))) && (((List.getD a k hz).score) == ((List.getD b k hz).score)))))] (fun W_ => [(Instr.indexAt 22 (u) (.int .i64 ((k : Nat) : Int))).run Try.prog W_ = .ok (.pointer (some p3)) W_, (Instr.loadAt 31 (.pointer (some p3))).run Try.prog W_ = .ok (.agg #[.string (sb ((List.getD a k hz).key)), .int .i64 ((List.getD a k hz).score)]) W_, (Instr.indexAt 22 (v) (.int .i64 ((k : Nat) : Int))).run Try.prog W_ = .ok (.pointer (some p6)) W_, (Instr.loadAt 31 (.pointer (some p6))).run Try.prog W_ = .ok (.agg #[.string (sb ((List.getD b k hz).key)), .int .i64 ((List.getD b k hz).score)]) W_, Try.prog.eqGuardType Try.prog.depth 31 = false ∧ (binOp .neq 31 (.agg #[.string (sb ((List.getD a k hz).key)), .int .i64 ((List.getD a k hz).score)]) (.agg #[.string (sb ((List.getD b k hz).key)), .int .i64 ((List.getD b k hz).score)])).run Try.prog W_ = .ok (.bool (!((decide (((List.getD a k hz).key) = ((List.getD b k hz).key))) && (((List.getD a k hz).score) == ((List.getD b k hz).score))))) W_]) [(u, u), (.int .i64 ((k : Nat) : Int), .int .i64 ((k : Nat) : Int)), (v, v), (.int .i64 ((k : Nat) : Int), .int .i64 ((k : Nat) : Int))] [(0, u), (1, v), (5, .int .i64 ((k : Nat) : Int)), (25, .bool (!((decide (((List.getD a k hz).key) = ((List.getD b k hz).key))) && (((List.getD a k hz).score) == ((List.getD b k hz).score)))))] (by kernel_rfl) (by kernel_rfl) ([(25, .bool (!((decide (((List.getD a k hz).key) = ((List.getD b k hz).key))) && (((List.getD a k hz).score) == ((List.getD b k hz).score))))), (24, .agg #[.string (sb ((List.getD b k hz).key)), .int .i64 ((List.getD b k hz).score)]), (23, .pointer (some p6)), (22, .int .i64 ((k : Nat) : Int)), (21, v), (20, .agg #[.string (sb ((List.getD a k hz).key)), .int .i64 ((List.getD a k hz).score)]), (19, .pointer (some p3)), (18, .int .i64 ((k : Nat) : Int)), (17, u)] ++ [(0, u), (1, v), (5, .int .i64 ((k : Nat) : Int))]) (fun W_ => by kernel_rfl) (by kernel_rfl) (.cons rfl (.cons rfl (.cons rfl (.cons rfl Obs.nil)))) (Kept.drewN _ _ 1) (fun W_ hW_ => (.cons (hq5 _ _) (.cons (r_loads (f := hitC) (l := a) aE31 ((hu.kept0 hM.kept).kept0 hW_) hitC_len hp4 (by first | omega | (dsimp only; omega)) hz) (.cons (hq8 _ _) (.cons (r_loads (f := hitC) (l := b) aE31 ((hv.kept0 hM.kept).kept0 hW_) hitC_len hp7 (by first | omega | (dsimp only; omega)) hz) (.cons (f_agneq eT31 (xs := [.string (sb ((List.getD a k hz).key)), .int .i64 ((List.getD a k hz).score)]) (ys := [.string (sb ((List.getD b k hz).key)), .int .i64 ((List.getD b k hz).score)]) (r := (((sb ((List.getD a k hz).key)).toList == (sb ((List.getD b k hz).key)).toList) && ((((List.getD a k hz).score) == ((List.getD b k hz).score)) && true))) (by kernel_rfl) (by simp [sb_beq])) Obs.nil)))))) (fun w9 hw10 => ?_)
      have hM11 := hM.ext hw10
      refine GoS.cond (!((decide (((List.getD a k hz).key) = ((List.getD b k hz).key))) && (((List.getD a k hz).score) == ((List.getD b k hz).score)))) [.code (csub (cd Try.f15) [1,1,0,1,0,0,1,0,0,1,0]), .inBlock 1, .code (csub (cd Try.f15) [1,1,0,1,0,0,1,1]), .inLoop (csub (cd Try.f15) [1,1,0,1,0,0]), .inBlock 0, .code (csub (cd Try.f15) [1,1,1])] [.code (csub (cd Try.f15) [1,1,0,1,0,0,1,0,0,1,1]), .inBlock 1, .code (csub (cd Try.f15) [1,1,0,1,0,0,1,1]), .inLoop (csub (cd Try.f15) [1,1,0,1,0,0]), .inBlock 0, .code (csub (cd Try.f15) [1,1,1])] (by kernel_rfl) (fun h12 => ?_) (fun h12 => ?_)
      ·
        have h12p : ¬ ((((List.getD a k hz).key) = ((List.getD b k hz).key)) ∧ (((List.getD a k hz).score) = ((List.getD b k hz).score))) := p_no (p_iand (@decide_eq_true_iff (((List.getD a k hz).key) = ((List.getD b k hz).key)) _) (@beq_iff_eq _ _ _ (((List.getD a k hz).score)) (((List.getD b k hz).score)))) (p_nf h12)
        refine GoS.run [4] [.n, .n, .n, .n] _ [.code (csub (cd Try.f15) [1,1,0,1,0,0,1,0,0,1,0,1]), .inBlock 1, .code (csub (cd Try.f15) [1,1,0,1,0,0,1,1]), .inLoop (csub (cd Try.f15) [1,1,0,1,0,0]), .inBlock 0, .code (csub (cd Try.f15) [1,1,1])] [(4, .bool false)] w9 (by kernel_rfl) .nil ?_
        refine GoS.ret (fn := Try.f15) (v := (.bool false)) Try.func15 (by kernel_rfl) ?_
        rw [hR]
        exact ⟨ret_bool (decide_eq_false (fun z => (hit_no h12p) (by rw [z]))).symm, hM11⟩
      ·
        have h12p : ((List.getD a k hz).key) = ((List.getD b k hz).key) := of_decide_eq_true (p_andl (p_nt h12))
        have h12p1 : ((List.getD a k hz).score) = ((List.getD b k hz).score) := eq_of_beq (p_andr (p_nt h12))
        refine GoS.run [0, 1, 5] [.n] _ [.inBlock 1, .code (csub (cd Try.f15) [1,1,0,1,0,0,1,1]), .inLoop (csub (cd Try.f15) [1,1,0,1,0,0]), .inBlock 0, .code (csub (cd Try.f15) [1,1,1])] [(0, u), (1, v), (5, .int .i64 ((k : Nat) : Int))] w9 (by kernel_rfl) .nil ?_
        have o13 : (binOp .add 3 (.int .i64 ((k : Nat) : Int)) (.int .i64 1)).run Try.prog w9 = .ok (.int .i64 (((k + 1) : Nat) : Int)) w9 := f_add (by rw [show ((k : Nat) : Int) + 1 = (((k + 1) : Nat) : Int) by omega]; exact IntWalk.i64_in _ (by omega))
        refine GoS.run [0, 1, 5] [.n, .n, .n, .h (.int .i64 (((k + 1) : Nat) : Int)), .n, .n, .n] _ [.code (csub (cd Try.f15) [1,1,0,1,0,0]), .inLoop (csub (cd Try.f15) [1,1,0,1,0,0]), .inBlock 0, .code (csub (cd Try.f15) [1,1,1])] [(0, u), (1, v), (5, .int .i64 (((k + 1) : Nat) : Int))] w9 (by kernel_rfl) (.cons o13 .nil) ?_
        exact ih (k + 1) _ (by omega) (fun j hj => by rcases Nat.lt_succ_iff_lt_or_eq.1 hj with h | h; exact hw j h; subst h; exact hit_yes h12p h12p1) hM11 (by omega)
    ·
      have h2p : ¬ (((k : Nat) : Int) < (((List.length a) : Nat) : Int)) := of_decide_eq_false h2
      refine GoS.run [4] [.n, .n, .n, .n, .n] _ [.code (csub (cd Try.f15) [1,1,1,1])] [(4, .bool true)] w (by kernel_rfl) .nil ?_
      refine GoS.ret (fn := Try.f15) (v := (.bool true)) Try.func15 (by kernel_rfl) ?_
      rw [hR]
      exact ⟨ret_bool (decide_eq_true (hits_ext hab (fun j hj => hw j (by omega)))).symm, hM⟩

set_option maxHeartbeats 400000 in
theorem same_c {w : World} (u v : Value) (a b : List Hit) (hu : Rd w 2 u a.length (recs hitC a)) (hv : Rd w 2 v b.length (recs hitC b)) :
    Calls Try.prog 15 #[u, v] w (fun e w' => e = .returned (.bool (decide (a = b))) ∧ Mem [] w w' []) := by
  have hal := rd_len hu
  have hbl := rd_len hv
  simp only [maxLen] at hal hbl
  obtain ⟨R, hR⟩ : ∃ R : Ending → World → Prop, R = (fun e w' => e = .returned (.bool (decide (a = b))) ∧ Mem [] w w' []) := ⟨_, rfl⟩
  rw [← hR]
  refine GoS.enter (n := 26) Try.func15 (by kernel_rfl) rfl [(0, u), (1, v)] (by kernel_rfl) (by kernel_rfl) ?_
  have hM0 := Mem.start w
  have o1 : (Builtin.len_ #[22] 3 #[u]).run Try.prog w = .ok (.int .i64 (((List.length a) : Nat) : Int)) w := f_slen sT22 (hu.kept0 hM0.kept) 3 _
  have o2 : (Builtin.len_ #[22] 3 #[v]).run Try.prog w = .ok (.int .i64 (((List.length b) : Nat) : Int)) w := f_slen sT22 (hv.kept0 hM0.kept) 3 _
  refine GoS.run [0, 1, 10] [.n, .n, .n, .n, .n, .n, .n, .n, .h (.int .i64 (((List.length a) : Nat) : Int)), .n, .h (.int .i64 (((List.length b) : Nat) : Int)), .n, .n] _ [.code (csub (cd Try.f15) [1,0,1]), .code (csub (cd Try.f15) [1,1])] [(0, u), (1, v), (10, .bool ((((List.length a) : Nat) : Int) != (((List.length b) : Nat) : Int)))] w (by kernel_rfl) (.cons o1 (.cons o2 .nil)) ?_
  refine GoS.cond ((((List.length a) : Nat) : Int) != (((List.length b) : Nat) : Int)) [.code (csub (cd Try.f15) [1,0,1,0]), .code (csub (cd Try.f15) [1,1])] [.code (csub (cd Try.f15) [1,0,1,1]), .code (csub (cd Try.f15) [1,1])] (by kernel_rfl) (fun h3 => ?_) (fun h3 => ?_)
  ·
    have h3p : ¬ ((((List.length a) : Nat) : Int) = (((List.length b) : Nat) : Int)) := bne_iff_ne.1 h3
    refine GoS.run [4] [.n, .n, .n, .n] _ [.code (csub (cd Try.f15) [1,0,1,0,1]), .code (csub (cd Try.f15) [1,1])] [(4, .bool false)] w (by kernel_rfl) .nil ?_
    refine GoS.ret (fn := Try.f15) (v := (.bool false)) Try.func15 (by kernel_rfl) ?_
    rw [hR]
    exact ⟨ret_bool (decide_eq_false (fun z => h3p (by rw [z]))).symm, hM0⟩
  ·
    have h3p : (((List.length a) : Nat) : Int) = (((List.length b) : Nat) : Int) := p_eq h3
    refine GoS.run [0, 1] [.n] _ [.code (csub (cd Try.f15) [1,1])] [(0, u), (1, v)] w (by kernel_rfl) .nil ?_
    refine GoS.run [0, 1, 5] [.n, .n, .n, .n, .n, .n, .n] _ [.code (csub (cd Try.f15) [1,1,0,1,0,0]), .inLoop (csub (cd Try.f15) [1,1,0,1,0,0]), .inBlock 0, .code (csub (cd Try.f15) [1,1,1])] [(0, u), (1, v), (5, .int .i64 0)] w (by kernel_rfl) .nil ?_
    exact same_L u v a b hu hv (by omega) R hR (a.length + 1) 0 w (by omega) (fun j hj => absurd hj (Nat.not_lt_zero _)) hM0 (by omega)

theorem same_yes {w : World} (u v : Value) (a b : List Hit) (hu : Rd w 2 u a.length (recs hitC a)) (hv : Rd w 2 v b.length (recs hitC b)) (h : a = b) :
    Calls Try.prog 15 #[u, v] w (fun e w' => e = .returned (.bool true) ∧ Mem [] w w' []) := by
  have := same_c u v a b hu hv
  rwa [decide_eq_true h] at this


end Go.Proofs.Ytbammppeneoffaa
