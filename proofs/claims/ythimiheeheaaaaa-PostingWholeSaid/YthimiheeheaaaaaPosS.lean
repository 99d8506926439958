/-
  The walk of PostingWhole.
-/
import Derived.Test.YthimiheeheaaaaaPosH
import Derived.Test.YthimiheeheaaaaaPosR
namespace Go.Proofs.Ythimiheeheaaaaa
open Go Go.Gw Go.NumP Go.LiveP Go.PackP Go.PostP Go.RowKit
set_option linter.unusedVariables false
set_option linter.unusedSimpArgs false


set_option maxHeartbeats 2000000 in
theorem lwhole_L {w0 : World} (u : Value) (L : PS) (X : Nat → Value) (hu : Rd w0 2 u L.length (pcells L X)) (hX : ∀ j, j < L.length → Rd w0 1 (X j) (L.getD j zp).2.length (ivals .i64 (L.getD j zp).2)) (hc : ckP (-1) L = 0) (c c2 : Nat) (v t v2 t2 : Value) (X1 Y1 X2 Y2 : Nat → Value) (R : Ending → World → Prop) (hR : R = (fun e w' => e = .returned (.bool true) ∧ Below w0.heap.size w0 w')) : ∀ (N : Nat) (a b : Int) (k : Nat) (w : World) (hk : k ≤ L.length) (ha : a = ((k : Nat) : Int) - 1) (hb : b.toNat = k) (hb1 : -1 ≤ b) (hb2 : b ≤ ((L.length : Nat) : Int)) (hM : Mem [] w0 w (((curR 64 40 38 3 c v t L X1 Y1 a) ++ (curR 64 40 38 3 c2 v2 t2 L X2 Y2 b)))) (hN : L.length - k < N), GoS Try.prog 9 R 118 [.code (csub (cd Try.f9) [1,1,1,1,0,1,0,0]), .inLoop (csub (cd Try.f9) [1,1,1,1,0,1,0,0]), .inBlock 0, .code (csub (cd Try.f9) [1,1,1,1,1])] [(0, u), (3, .pointer (some (⟨c, 0, none⟩))), (5, .pointer (some (⟨c2, 0, none⟩))), (7, .int .i64 ((k : Nat) : Int))] w := by
  intro N
  induction N with
  | zero => intro a b k w hk ha hb hb1 hb2 hM hN; exact absurd hN (Nat.not_lt_zero _)
  | succ N ih =>
    intro a b k w hk ha hb hb1 hb2 hM hN
    have hok := ckP_ok L (-1) hc (by decide) (by decide)
    have hol := hok.1
    have hdk : k < L.length → -1 < (L.getD k zp).1 ∧ (L.getD k zp).1 < 1048576 := fun h => ⟨(hok.2 _ (mem_at h)).1, (hok.2 _ (mem_at h)).2.1⟩
    have o1 : (Builtin.len_ #[22] 3 #[u]).run Try.prog w = .ok (.int .i64 (((List.length L) : Nat) : Int)) w := f_slen sT22 (hu.kept0 hM.kept) 3 _
    refine GoS.run [0, 3, 5, 7, 42] [.n, .n, .n, .n, .n, .h (.int .i64 (((List.length L) : Nat) : Int)), .n, .n] _ [.code (csub (cd Try.f9) [1,1,1,1,0,1,0,0,0,1]), .code (csub (cd Try.f9) [1,1,1,1,0,1,0,0,1]), .inLoop (csub (cd Try.f9) [1,1,1,1,0,1,0,0]), .inBlock 0, .code (csub (cd Try.f9) [1,1,1,1,1])] [(0, u), (3, .pointer (some (⟨c, 0, none⟩))), (5, .pointer (some (⟨c2, 0, none⟩))), (7, .int .i64 ((k : Nat) : Int)), (42, .bool (decide (((k : Nat) : Int) < (((List.length L) : Nat) : Int))))] w (by kernel_rfl) (.cons o1 .nil) ?_
    refine GoS.cond (decide (((k : Nat) : Int) < (((List.length L) : Nat) : Int))) [.code (csub (cd Try.f9) [1,1,1,1,0,1,0,0,0,1,0]), .code (csub (cd Try.f9) [1,1,1,1,0,1,0,0,1]), .inLoop (csub (cd Try.f9) [1,1,1,1,0,1,0,0]), .inBlock 0, .code (csub (cd Try.f9) [1,1,1,1,1])] [.code (csub (cd Try.f9) [1,1,1,1,0,1,0,0,0,1,1]), .code (csub (cd Try.f9) [1,1,1,1,0,1,0,0,1]), .inLoop (csub (cd Try.f9) [1,1,1,1,0,1,0,0]), .inBlock 0, .code (csub (cd Try.f9) [1,1,1,1,1])] (by kernel_rfl) (fun h2 => ?_) (fun h2 => ?_)
    ·
      have h2p : ((k : Nat) : Int) < (((List.length L) : Nat) : Int) := of_decide_eq_true h2
      refine GoS.run [0, 3, 5, 7] [.n] _ [.code (csub (cd Try.f9) [1,1,1,1,0,1,0,0,1]), .inLoop (csub (cd Try.f9) [1,1,1,1,0,1,0,0]), .inBlock 0, .code (csub (cd Try.f9) [1,1,1,1,1])] [(0, u), (3, .pointer (some (⟨c, 0, none⟩))), (5, .pointer (some (⟨c2, 0, none⟩))), (7, .int .i64 ((k : Nat) : Int))] w (by kernel_rfl) .nil ?_
      refine GoS.run [0, 3, 5, 7, 45] [.n, .n, .n, .n, .n, .n] _ [.inRegion (cops (csub (cd Try.f9) [1,1,1,1,0,1,0,0,1,0,0,0,0])) [1,2,3,4,5,6,7,8,9,10,11,12], .code (csub (cd Try.f9) [1,1,1,1,0,1,0,0,1,0,0,0,1]), .code (csub (cd Try.f9) [1,1,1,1,0,1,0,0,1,0,0,1]), .inBlock 1, .code (csub (cd Try.f9) [1,1,1,1,0,1,0,0,1,1]), .inLoop (csub (cd Try.f9) [1,1,1,1,0,1,0,0]), .inBlock 0, .code (csub (cd Try.f9) [1,1,1,1,1])] [(0, u), (3, .pointer (some (⟨c, 0, none⟩))), (5, .pointer (some (⟨c2, 0, none⟩))), (7, .int .i64 ((k : Nat) : Int)), (45, .pointer (some (⟨c, 0, none⟩)))] w (by kernel_rfl) .nil ?_
      have hP31 := hM.perm (pullL [] (curR 64 40 38 3 c v t L X1 Y1 a) (curR 64 40 38 3 c2 v2 t2 L X2 Y2 b))
      refine GoS.call [0, 3, 5, 7] 20 #[.pointer (some (⟨c, 0, none⟩))] (some 46) [.inRegion (cops (csub (cd Try.f9) [1,1,1,1,0,1,0,0,1,0,0,0,0])) [2,3,4,5,6,7,8,9,10,11,12], .code (csub (cd Try.f9) [1,1,1,1,0,1,0,0,1,0,0,0,1]), .code (csub (cd Try.f9) [1,1,1,1,0,1,0,0,1,0,0,1]), .inBlock 1, .code (csub (cd Try.f9) [1,1,1,1,0,1,0,0,1,1]), .inLoop (csub (cd Try.f9) [1,1,1,1,0,1,0,0]), .inBlock 0, .code (csub (cd Try.f9) [1,1,1,1,1])] [(0, u), (3, .pointer (some (⟨c, 0, none⟩))), (5, .pointer (some (⟨c2, 0, none⟩))), (7, .int .i64 ((k : Nat) : Int))] (by kernel_rfl) (next_c c v t L X1 Y1 a (hc) (by omega) (by omega) w (Mem.lend (R := (curR 64 40 38 3 c v t L X1 Y1 a)) (L := ([] ++ (curR 64 40 38 3 c2 v2 t2 L X2 Y2 b))) hP31)) ?_
      rintro _ w34 ⟨rfl, m35⟩
      refine ⟨_, rfl, ?_⟩
      have hM32 := Mem.back (R := (curR 64 40 38 3 c v t L X1 Y1 a)) (L := ([] ++ (curR 64 40 38 3 c2 v2 t2 L X2 Y2 b))) (R' := (curR 64 40 38 3 c v t L X1 Y1 (nxtP L a))) hP31 m35
      have hM33 : Mem [] w0 w34 (((curR 64 40 38 3 c v t L X1 Y1 (nxtP L a)) ++ (curR 64 40 38 3 c2 v2 t2 L X2 Y2 b))) := hM32.perm ((pullL [] (curR 64 40 38 3 c v t L X1 Y1 (nxtP L a)) (curR 64 40 38 3 c2 v2 t2 L X2 Y2 b))).symm
      have he36 : (nxtP L a) = ((k : Nat) : Int) := nxt_eq (by omega)
      have hM37 : Mem [] w0 w34 (((curR 64 40 38 3 c v t L X1 Y1 ((k : Nat) : Int)) ++ (curR 64 40 38 3 c2 v2 t2 L X2 Y2 b))) := he36 ▸ hM33
      rw [he36]
      rw [show decide (((k : Nat) : Int) < ((List.length L : Nat) : Int)) = true from decide_eq_true (by omega)]
      obtain ⟨p38, hp39, hq40⟩ := rd_at (i := ((k : Nat) : Int)) sT22 (hu.kept0 hM37.kept) k (by omega) (by first | omega | (dsimp only; omega))
      have o41 : (Instr.indexAt 22 (u) (.int .i64 ((k : Nat) : Int))).run Try.prog w34 = .ok (.pointer (some p38)) w34 := hq40 _ _
      have o42 : (Instr.loadAt 3 (.pointer (some (Addr.add p38 0)))).run Try.prog w34 = .ok (.int .i64 ((List.getD L k zp).1)) w34 := c_load pE3 (hu.kept0 hM37.kept) (Cel.add (At.cel hp39) 0) (p_at0 (by first | omega | (dsimp only; omega)))
      refine GoS.run [0, 3, 5, 7, 48, 49, 54] [.n, .n, .n, .n, .n, .h (.pointer (some p38)), .n, .h (.int .i64 ((List.getD L k zp).1))] _ [.inRegion (cops (csub (cd Try.f9) [1,1,1,1,0,1,0,0,1,0,0,0,0])) [10,11,12], .code (csub (cd Try.f9) [1,1,1,1,0,1,0,0,1,0,0,0,1]), .code (csub (cd Try.f9) [1,1,1,1,0,1,0,0,1,0,0,1]), .inBlock 1, .code (csub (cd Try.f9) [1,1,1,1,0,1,0,0,1,1]), .inLoop (csub (cd Try.f9) [1,1,1,1,0,1,0,0]), .inBlock 0, .code (csub (cd Try.f9) [1,1,1,1,1])] [(0, u), (3, .pointer (some (⟨c, 0, none⟩))), (5, .pointer (some (⟨c2, 0, none⟩))), (7, .int .i64 ((k : Nat) : Int)), (48, .bool false), (49, .pointer (some (⟨c2, 0, none⟩))), (54, .int .i64 ((List.getD L k zp).1))] w34 (by kernel_rfl) (.cons o41 (.cons o42 .nil)) ?_
      have hP43 := hM37.perm (pullR [] (curR 64 40 38 3 c v t L X1 Y1 ((k : Nat) : Int)) (curR 64 40 38 3 c2 v2 t2 L X2 Y2 b))
      refine GoS.call [0, 3, 5, 7, 48] 21 #[.pointer (some (⟨c2, 0, none⟩)), .int .i64 ((List.getD L k zp).1)] (some 55) [.inRegion (cops (csub (cd Try.f9) [1,1,1,1,0,1,0,0,1,0,0,0,0])) [11,12], .code (csub (cd Try.f9) [1,1,1,1,0,1,0,0,1,0,0,0,1]), .code (csub (cd Try.f9) [1,1,1,1,0,1,0,0,1,0,0,1]), .inBlock 1, .code (csub (cd Try.f9) [1,1,1,1,0,1,0,0,1,1]), .inLoop (csub (cd Try.f9) [1,1,1,1,0,1,0,0]), .inBlock 0, .code (csub (cd Try.f9) [1,1,1,1,1])] [(0, u), (3, .pointer (some (⟨c, 0, none⟩))), (5, .pointer (some (⟨c2, 0, none⟩))), (7, .int .i64 ((k : Nat) : Int)), (48, .bool false)] (by kernel_rfl) (adv_c c2 v2 t2 L X2 Y2 b (hc) (by omega) (by omega) ((List.getD L k zp).1) w34 (Mem.lend (R := (curR 64 40 38 3 c2 v2 t2 L X2 Y2 b)) (L := ([] ++ (curR 64 40 38 3 c v t L X1 Y1 ((k : Nat) : Int)))) hP43)) ?_
      rintro _ w46 ⟨rfl, m47⟩
      refine ⟨_, rfl, ?_⟩
      have hM44 := Mem.back (R := (curR 64 40 38 3 c2 v2 t2 L X2 Y2 b)) (L := ([] ++ (curR 64 40 38 3 c v t L X1 Y1 ((k : Nat) : Int)))) (R' := (curR 64 40 38 3 c2 v2 t2 L X2 Y2 (advP L b ((List.getD L k zp).1)))) hP43 m47
      have hM45 : Mem [] w0 w46 (((curR 64 40 38 3 c v t L X1 Y1 ((k : Nat) : Int)) ++ (curR 64 40 38 3 c2 v2 t2 L X2 Y2 (advP L b ((List.getD L k zp).1))))) := hM44.perm ((pullR [] (curR 64 40 38 3 c v t L X1 Y1 ((k : Nat) : Int)) (curR 64 40 38 3 c2 v2 t2 L X2 Y2 (advP L b ((List.getD L k zp).1))))).symm
      have he48 : (advP L b ((List.getD L k zp).1)) = ((k : Nat) : Int) := adv_at hb (by omega)
      have hM49 : Mem [] w0 w46 (((curR 64 40 38 3 c v t L X1 Y1 ((k : Nat) : Int)) ++ (curR 64 40 38 3 c2 v2 t2 L X2 Y2 ((k : Nat) : Int)))) := he48 ▸ hM45
      rw [he48]
      rw [show decide (((k : Nat) : Int) < ((List.length L : Nat) : Int)) = true from decide_eq_true (by omega)]
      refine GoS.run [0, 3, 5, 7, 59] [.n, .n, .n, .n, .n, .n, .n, .n] _ [.inRegion (cops (csub (cd Try.f9) [1,1,1,1,0,1,0,0,1,0,0,1,0])) [1,2,3,4,5,6,7], .code (csub (cd Try.f9) [1,1,1,1,0,1,0,0,1,0,0,1,1]), .inBlock 1, .code (csub (cd Try.f9) [1,1,1,1,0,1,0,0,1,1]), .inLoop (csub (cd Try.f9) [1,1,1,1,0,1,0,0]), .inBlock 0, .code (csub (cd Try.f9) [1,1,1,1,1])] [(0, u), (3, .pointer (some (⟨c, 0, none⟩))), (5, .pointer (some (⟨c2, 0, none⟩))), (7, .int .i64 ((k : Nat) : Int)), (59, .pointer (some (⟨c, 0, none⟩)))] w46 (by kernel_rfl) .nil ?_
      have hP50 := hM49.perm (pullL [] (curR 64 40 38 3 c v t L X1 Y1 ((k : Nat) : Int)) (curR 64 40 38 3 c2 v2 t2 L X2 Y2 ((k : Nat) : Int)))
      refine GoS.call [0, 3, 5, 7] 19 #[.pointer (some (⟨c, 0, none⟩))] (some 60) [.inRegion (cops (csub (cd Try.f9) [1,1,1,1,0,1,0,0,1,0,0,1,0])) [2,3,4,5,6,7], .code (csub (cd Try.f9) [1,1,1,1,0,1,0,0,1,0,0,1,1]), .inBlock 1, .code (csub (cd Try.f9) [1,1,1,1,0,1,0,0,1,1]), .inLoop (csub (cd Try.f9) [1,1,1,1,0,1,0,0]), .inBlock 0, .code (csub (cd Try.f9) [1,1,1,1,1])] [(0, u), (3, .pointer (some (⟨c, 0, none⟩))), (5, .pointer (some (⟨c2, 0, none⟩))), (7, .int .i64 ((k : Nat) : Int))] (by kernel_rfl) (post_c c v t L X1 Y1 ((k : Nat) : Int) (hc) (by omega) (by omega) w46 (Mem.lend (R := (curR 64 40 38 3 c v t L X1 Y1 ((k : Nat) : Int))) (L := ([] ++ (curR 64 40 38 3 c2 v2 t2 L X2 Y2 ((k : Nat) : Int)))) hP50)) ?_
      rintro _ w53 ⟨x55, rfl, m54⟩
      refine ⟨_, rfl, ?_⟩
      have hM51 := Mem.back (R := (curR 64 40 38 3 c v t L X1 Y1 ((k : Nat) : Int))) (L := ([] ++ (curR 64 40 38 3 c2 v2 t2 L X2 Y2 ((k : Nat) : Int)))) (R' := (⟨3, 1, x55, (List.length ((postP L ((k : Nat) : Int)).2)), (ivals .i64 ((postP L ((k : Nat) : Int)).2))⟩ :: (curR 64 40 38 3 c v t L X1 Y1 ((k : Nat) : Int)))) hP50 m54
      have hM52 : Mem [] w0 w53 (⟨3, 1, x55, (List.length ((postP L ((k : Nat) : Int)).2)), (ivals .i64 ((postP L ((k : Nat) : Int)).2))⟩ :: ((curR 64 40 38 3 c v t L X1 Y1 ((k : Nat) : Int)) ++ (curR 64 40 38 3 c2 v2 t2 L X2 Y2 ((k : Nat) : Int)))) := hM51.perm (((pullL [] (curR 64 40 38 3 c v t L X1 Y1 ((k : Nat) : Int)) (curR 64 40 38 3 c2 v2 t2 L X2 Y2 ((k : Nat) : Int)))).symm.cons _)
      have he56 : (postP L ((k : Nat) : Int)) = (List.getD L k zp) := post_eq (by omega)
      have hM57 : Mem [] w0 w53 (⟨3, 1, x55, (List.length ((List.getD L k zp).2)), (ivals .i64 ((List.getD L k zp).2))⟩ :: ((curR 64 40 38 3 c v t L X1 Y1 ((k : Nat) : Int)) ++ (curR 64 40 38 3 c2 v2 t2 L X2 Y2 ((k : Nat) : Int)))) := he56 ▸ hM52
      rw [he56]
      obtain ⟨b58, w59, hr60, hM61⟩ := m_alloc oT40 hM57
      have hM62 : Mem [] w0 w59 (⟨40, 2, (obj b58), 1, [.int .i64 0, .slice none 0 0]⟩ :: ⟨3, 1, x55, (List.length ((List.getD L k zp).2)), (ivals .i64 ((List.getD L k zp).2))⟩ :: ((curR 64 40 38 3 c v t L X1 Y1 ((k : Nat) : Int)) ++ (curR 64 40 38 3 c2 v2 t2 L X2 Y2 ((k : Nat) : Int)))) := hM61
      have o67 : (Instr.alloc 40 true (.tuple #[])).run Try.prog w53 = .ok (.pointer (some (⟨b58, 0, none⟩))) w59 := hr60
      obtain ⟨w63, hr64, hM65⟩ := c_stores (ys := [.int .i64 ((List.getD L k zp).1), x55]) aE40 hM62 0 rfl (cel_obj b58 0) rfl (by decide) (by intro u hu; simp at hu; rcases hu with rfl | rfl <;> first | rfl | exact (rd_one (hM62.rd 1 rfl)))
      have hM66 : Mem [] w0 w63 (⟨40, 2, (obj b58), 1, [.int .i64 ((List.getD L k zp).1), x55]⟩ :: ⟨3, 1, x55, (List.length ((List.getD L k zp).2)), (ivals .i64 ((List.getD L k zp).2))⟩ :: ((curR 64 40 38 3 c v t L X1 Y1 ((k : Nat) : Int)) ++ (curR 64 40 38 3 c2 v2 t2 L X2 Y2 ((k : Nat) : Int)))) := hM65
      have o68 : (Instr.storeAt 40 (.pointer (some (⟨b58, 0, none⟩))) (.agg #[.int .i64 ((List.getD L k zp).1), x55])).run Try.prog w59 = .ok () w63 ∧ undef = undef := ⟨hr64, rfl⟩
      refine GoS.run [0, 3, 5, 7, 8, 64] [.n, .n, .n, .u (.pointer (some (⟨b58, 0, none⟩))) (w59), .u (undef) (w63), .n, .n, .n, .n, .n] _ [.inRegion (cops (csub (cd Try.f9) [1,1,1,1,0,1,0,0,1,0,0,1,1,0])) [1,2,3,4,5,6,7], .code (csub (cd Try.f9) [1,1,1,1,0,1,0,0,1,0,0,1,1,1]), .inBlock 1, .code (csub (cd Try.f9) [1,1,1,1,0,1,0,0,1,1]), .inLoop (csub (cd Try.f9) [1,1,1,1,0,1,0,0]), .inBlock 0, .code (csub (cd Try.f9) [1,1,1,1,1])] [(0, u), (3, .pointer (some (⟨c, 0, none⟩))), (5, .pointer (some (⟨c2, 0, none⟩))), (7, .int .i64 ((k : Nat) : Int)), (8, .pointer (some (⟨b58, 0, none⟩))), (64, .pointer (some (⟨c2, 0, none⟩)))] w63 (by kernel_rfl) (.cons o67 (.cons o68 .nil)) ?_
      have hP69 := hM66.perm (pullR [⟨40, 2, (obj b58), 1, [.int .i64 ((List.getD L k zp).1), x55]⟩, ⟨3, 1, x55, (List.length ((List.getD L k zp).2)), (ivals .i64 ((List.getD L k zp).2))⟩] (curR 64 40 38 3 c v t L X1 Y1 ((k : Nat) : Int)) (curR 64 40 38 3 c2 v2 t2 L X2 Y2 ((k : Nat) : Int)))
      refine GoS.call [0, 3, 5, 7, 8] 19 #[.pointer (some (⟨c2, 0, none⟩))] (some 65) [.inRegion (cops (csub (cd Try.f9) [1,1,1,1,0,1,0,0,1,0,0,1,1,0])) [2,3,4,5,6,7], .code (csub (cd Try.f9) [1,1,1,1,0,1,0,0,1,0,0,1,1,1]), .inBlock 1, .code (csub (cd Try.f9) [1,1,1,1,0,1,0,0,1,1]), .inLoop (csub (cd Try.f9) [1,1,1,1,0,1,0,0]), .inBlock 0, .code (csub (cd Try.f9) [1,1,1,1,1])] [(0, u), (3, .pointer (some (⟨c, 0, none⟩))), (5, .pointer (some (⟨c2, 0, none⟩))), (7, .int .i64 ((k : Nat) : Int)), (8, .pointer (some (⟨b58, 0, none⟩)))] (by kernel_rfl) (post_c c2 v2 t2 L X2 Y2 ((k : Nat) : Int) (hc) (by omega) (by omega) w63 (Mem.lend (R := (curR 64 40 38 3 c2 v2 t2 L X2 Y2 ((k : Nat) : Int))) (L := ([⟨40, 2, (obj b58), 1, [.int .i64 ((List.getD L k zp).1), x55]⟩, ⟨3, 1, x55, (List.length ((List.getD L k zp).2)), (ivals .i64 ((List.getD L k zp).2))⟩] ++ (curR 64 40 38 3 c v t L X1 Y1 ((k : Nat) : Int)))) hP69)) ?_
      rintro _ w72 ⟨x74, rfl, m73⟩
      refine ⟨_, rfl, ?_⟩
      have hM70 := Mem.back (R := (curR 64 40 38 3 c2 v2 t2 L X2 Y2 ((k : Nat) : Int))) (L := ([⟨40, 2, (obj b58), 1, [.int .i64 ((List.getD L k zp).1), x55]⟩, ⟨3, 1, x55, (List.length ((List.getD L k zp).2)), (ivals .i64 ((List.getD L k zp).2))⟩] ++ (curR 64 40 38 3 c v t L X1 Y1 ((k : Nat) : Int)))) (R' := (⟨3, 1, x74, (List.length ((postP L ((k : Nat) : Int)).2)), (ivals .i64 ((postP L ((k : Nat) : Int)).2))⟩ :: (curR 64 40 38 3 c2 v2 t2 L X2 Y2 ((k : Nat) : Int)))) hP69 m73
      have hM71 : Mem [] w0 w72 (⟨3, 1, x74, (List.length ((postP L ((k : Nat) : Int)).2)), (ivals .i64 ((postP L ((k : Nat) : Int)).2))⟩ :: ⟨40, 2, (obj b58), 1, [.int .i64 ((List.getD L k zp).1), x55]⟩ :: ⟨3, 1, x55, (List.length ((List.getD L k zp).2)), (ivals .i64 ((List.getD L k zp).2))⟩ :: ((curR 64 40 38 3 c v t L X1 Y1 ((k : Nat) : Int)) ++ (curR 64 40 38 3 c2 v2 t2 L X2 Y2 ((k : Nat) : Int)))) := hM70.perm (((pullR [⟨40, 2, (obj b58), 1, [.int .i64 ((List.getD L k zp).1), x55]⟩, ⟨3, 1, x55, (List.length ((List.getD L k zp).2)), (ivals .i64 ((List.getD L k zp).2))⟩] (curR 64 40 38 3 c v t L X1 Y1 ((k : Nat) : Int)) (curR 64 40 38 3 c2 v2 t2 L X2 Y2 ((k : Nat) : Int)))).symm.cons _)
      have he75 : (postP L ((k : Nat) : Int)) = (List.getD L k zp) := post_eq (by omega)
      have hM76 : Mem [] w0 w72 (⟨3, 1, x74, (List.length ((List.getD L k zp).2)), (ivals .i64 ((List.getD L k zp).2))⟩ :: ⟨40, 2, (obj b58), 1, [.int .i64 ((List.getD L k zp).1), x55]⟩ :: ⟨3, 1, x55, (List.length ((List.getD L k zp).2)), (ivals .i64 ((List.getD L k zp).2))⟩ :: ((curR 64 40 38 3 c v t L X1 Y1 ((k : Nat) : Int)) ++ (curR 64 40 38 3 c2 v2 t2 L X2 Y2 ((k : Nat) : Int)))) := he75 ▸ hM71
      rw [he75]
      obtain ⟨b77, w78, hr79, hM80⟩ := m_alloc oT40 hM76
      have hM81 : Mem [] w0 w78 (⟨40, 2, (obj b77), 1, [.int .i64 0, .slice none 0 0]⟩ :: ⟨3, 1, x74, (List.length ((List.getD L k zp).2)), (ivals .i64 ((List.getD L k zp).2))⟩ :: ⟨40, 2, (obj b58), 1, [.int .i64 ((List.getD L k zp).1), x55]⟩ :: ⟨3, 1, x55, (List.length ((List.getD L k zp).2)), (ivals .i64 ((List.getD L k zp).2))⟩ :: ((curR 64 40 38 3 c v t L X1 Y1 ((k : Nat) : Int)) ++ (curR 64 40 38 3 c2 v2 t2 L X2 Y2 ((k : Nat) : Int)))) := hM80
      have o86 : (Instr.alloc 40 true (.tuple #[])).run Try.prog w72 = .ok (.pointer (some (⟨b77, 0, none⟩))) w78 := hr79
      obtain ⟨w82, hr83, hM84⟩ := c_stores (ys := [.int .i64 ((List.getD L k zp).1), x74]) aE40 hM81 0 rfl (cel_obj b77 0) rfl (by decide) (by intro u hu; simp at hu; rcases hu with rfl | rfl <;> first | rfl | exact (rd_one (hM81.rd 1 rfl)))
      have hM85 : Mem [] w0 w82 (⟨40, 2, (obj b77), 1, [.int .i64 ((List.getD L k zp).1), x74]⟩ :: ⟨3, 1, x74, (List.length ((List.getD L k zp).2)), (ivals .i64 ((List.getD L k zp).2))⟩ :: ⟨40, 2, (obj b58), 1, [.int .i64 ((List.getD L k zp).1), x55]⟩ :: ⟨3, 1, x55, (List.length ((List.getD L k zp).2)), (ivals .i64 ((List.getD L k zp).2))⟩ :: ((curR 64 40 38 3 c v t L X1 Y1 ((k : Nat) : Int)) ++ (curR 64 40 38 3 c2 v2 t2 L X2 Y2 ((k : Nat) : Int)))) := hM84
      have o87 : (Instr.storeAt 40 (.pointer (some (⟨b77, 0, none⟩))) (.agg #[.int .i64 ((List.getD L k zp).1), x74])).run Try.prog w78 = .ok () w82 ∧ undef = undef := ⟨hr83, rfl⟩
      refine GoS.run [0, 3, 5, 7, 8, 10] [.n, .n, .n, .u (.pointer (some (⟨b77, 0, none⟩))) (w78), .u (undef) (w82), .n, .n, .n] _ [.code (csub (cd Try.f9) [1,1,1,1,0,1,0,0,1,0,0,1,1,1,0]), .code (csub (cd Try.f9) [1,1,1,1,0,1,0,0,1,0,0,1,1,1,1]), .inBlock 1, .code (csub (cd Try.f9) [1,1,1,1,0,1,0,0,1,1]), .inLoop (csub (cd Try.f9) [1,1,1,1,0,1,0,0]), .inBlock 0, .code (csub (cd Try.f9) [1,1,1,1,1])] [(0, u), (3, .pointer (some (⟨c, 0, none⟩))), (5, .pointer (some (⟨c2, 0, none⟩))), (7, .int .i64 ((k : Nat) : Int)), (8, .pointer (some (⟨b58, 0, none⟩))), (10, .pointer (some (⟨b77, 0, none⟩)))] w82 (by kernel_rfl) (.cons o86 (.cons o87 .nil)) ?_
      obtain ⟨w88, hw89⟩ : ∃ w_, (w82).drewN 1 = w_ := ⟨_, rfl⟩
      refine GoS.held (fun W_ => Mem [] w0 W_ [⟨40, 2, (obj b77), 1, [.int .i64 ((List.getD L k zp).1), x74]⟩, ⟨3, 1, x74, (List.length ((List.getD L k zp).2)), (ivals .i64 ((List.getD L k zp).2))⟩, ⟨40, 2, (obj b58), 1, [.int .i64 ((List.getD L k zp).1), x55]⟩, ⟨3, 1, x55, (List.length ((List.getD L k zp).2)), (ivals .i64 ((List.getD L k zp).2))⟩]) [] 12 (by kernel_rfl) (by kernel_rfl) 32 (by kernel_rfl) ?_
      rw [hw89]
      have hM90 : Mem [] w0 w88 (⟨40, 2, (obj b77), 1, [.int .i64 ((List.getD L k zp).1), x74]⟩ :: ⟨3, 1, x74, (List.length ((List.getD L k zp).2)), (ivals .i64 ((List.getD L k zp).2))⟩ :: ⟨40, 2, (obj b58), 1, [.int .i64 ((List.getD L k zp).1), x55]⟩ :: ⟨3, 1, x55, (List.length ((List.getD L k zp).2)), (ivals .i64 ((List.getD L k zp).2))⟩ :: ((curR 64 40 38 3 c v t L X1 Y1 ((k : Nat) : Int)) ++ (curR 64 40 38 3 c2 v2 t2 L X2 Y2 ((k : Nat) : Int)))) := hw89 ▸ hM85.ext (Kept.drewN _ _ 1)
      have hS91 : Mem [] w0 w88 [⟨40, 2, (obj b77), 1, [.int .i64 ((List.getD L k zp).1), x74]⟩, ⟨3, 1, x74, (List.length ((List.getD L k zp).2)), (ivals .i64 ((List.getD L k zp).2))⟩, ⟨40, 2, (obj b58), 1, [.int .i64 ((List.getD L k zp).1), x55]⟩, ⟨3, 1, x55, (List.length ((List.getD L k zp).2)), (ivals .i64 ((List.getD L k zp).2))⟩] := hM90.sub (List.Sublist.cons_cons _ (List.Sublist.cons_cons _ (List.Sublist.cons_cons _ (List.Sublist.cons_cons _ (List.nil_sublist _)))))
      refine GoH.takeF 0 (.agg #[.int .i64 ((List.getD L k zp).1), x55]) (fun W_ => (Instr.loadAt 40 (.pointer (some (⟨b58, 0, none⟩)))).run Try.prog W_ = .ok (.agg #[.int .i64 ((List.getD L k zp).1), x55]) W_) (some 68) (fun W_ => by kernel_rfl) (fun W_ hW_ => c_loads (ys := [.int .i64 ((List.getD L k zp).1), x55]) aE40 (hW_.rd 2 rfl) (cel_obj b58 0) rfl (by intro j u hj; match j, hj with | 0, hj => exact hj | 1, hj => exact hj | n + 2, hj => cases hj)) hS91 ?_
      refine GoH.takeV 1 (u) (u) (some 69) (fun W_ => by kernel_rfl) rfl hS91 ?_
      refine GoH.takeV 2 (.int .i64 ((k : Nat) : Int)) (.int .i64 ((k : Nat) : Int)) (some 70) (fun W_ => by kernel_rfl) rfl hS91 ?_
      obtain ⟨p92, hp93, hq94⟩ := rd_at (i := ((k : Nat) : Int)) sT22 (hu.kept0 hS91.kept) k (by omega) (by first | omega | (dsimp only; omega))
      refine GoH.takeF 3 (.pointer (some p92)) (fun W_ => (Instr.indexAt 22 (u) (.int .i64 ((k : Nat) : Int))).run Try.prog W_ = .ok (.pointer (some p92)) W_) (some 71) (fun W_ => by kernel_rfl) (fun W_ hW_ => hq94 _ _) hS91 ?_
      refine GoH.takeF 4 (.agg #[.int .i64 ((List.getD L k zp).1), (X k)]) (fun W_ => (Instr.loadAt 40 (.pointer (some p92))).run Try.prog W_ = .ok (.agg #[.int .i64 ((List.getD L k zp).1), (X k)]) W_) (some 72) (fun W_ => by kernel_rfl) (fun W_ hW_ => p_loads aE40 (hu.kept0 hW_.kept) hp93 (by first | omega | (dsimp only; omega))) hS91 ?_
      refine GoH.callF 5 24 #[.agg #[.int .i64 ((List.getD L k zp).1), x55], .agg #[.int .i64 ((List.getD L k zp).1), (X k)]] (some 73) (by kernel_rfl) (one_yes (List.getD L k zp) (List.getD L k zp) x55 (X k) (hM90.rd 3 rfl) ((hX k (by omega)).kept0 hM90.kept) (rfl)) ?_
      rintro _ w95 ⟨rfl, m96⟩
      have hM97 := Mem.join hM90 m96
      have hS98 : Mem [] w0 w95 [⟨40, 2, (obj b77), 1, [.int .i64 ((List.getD L k zp).1), x74]⟩, ⟨3, 1, x74, (List.length ((List.getD L k zp).2)), (ivals .i64 ((List.getD L k zp).2))⟩, ⟨40, 2, (obj b58), 1, [.int .i64 ((List.getD L k zp).1), x55]⟩, ⟨3, 1, x55, (List.length ((List.getD L k zp).2)), (ivals .i64 ((List.getD L k zp).2))⟩] := hM97.sub (List.Sublist.cons_cons _ (List.Sublist.cons_cons _ (List.Sublist.cons_cons _ (List.Sublist.cons_cons _ (List.nil_sublist _)))))
      refine ⟨.bool true, rfl, .inr hS98, ?_⟩
      refine GoH.takeV 6 (.bool false) (.bool false) (some 74) (fun W_ => by kernel_rfl) rfl hS98 ?_
      refine GoH.takeV 7 (.bool false) (.bool false) (some 75) (fun W_ => by kernel_rfl) rfl hS98 ?_
      refine GoH.takeF 8 (.agg #[.int .i64 ((List.getD L k zp).1), x74]) (fun W_ => (Instr.loadAt 40 (.pointer (some (⟨b77, 0, none⟩)))).run Try.prog W_ = .ok (.agg #[.int .i64 ((List.getD L k zp).1), x74]) W_) (some 76) (fun W_ => by kernel_rfl) (fun W_ hW_ => c_loads (ys := [.int .i64 ((List.getD L k zp).1), x74]) aE40 (hW_.rd 0 rfl) (cel_obj b77 0) rfl (by intro j u hj; match j, hj with | 0, hj => exact hj | 1, hj => exact hj | n + 2, hj => cases hj)) hS98 ?_
      refine GoH.takeV 9 (u) (u) (some 77) (fun W_ => by kernel_rfl) rfl hS98 ?_
      refine GoH.takeV 10 (.int .i64 ((k : Nat) : Int)) (.int .i64 ((k : Nat) : Int)) (some 78) (fun W_ => by kernel_rfl) rfl hS98 ?_
      obtain ⟨p99, hp100, hq101⟩ := rd_at (i := ((k : Nat) : Int)) sT22 (hu.kept0 hS98.kept) k (by omega) (by first | omega | (dsimp only; omega))
      refine GoH.takeF 11 (.pointer (some p99)) (fun W_ => (Instr.indexAt 22 (u) (.int .i64 ((k : Nat) : Int))).run Try.prog W_ = .ok (.pointer (some p99)) W_) (some 79) (fun W_ => by kernel_rfl) (fun W_ hW_ => hq101 _ _) hS98 ?_
      refine GoH.takeF 12 (.agg #[.int .i64 ((List.getD L k zp).1), (X k)]) (fun W_ => (Instr.loadAt 40 (.pointer (some p99))).run Try.prog W_ = .ok (.agg #[.int .i64 ((List.getD L k zp).1), (X k)]) W_) (some 80) (fun W_ => by kernel_rfl) (fun W_ hW_ => p_loads aE40 (hu.kept0 hW_.kept) hp100 (by first | omega | (dsimp only; omega))) hS98 ?_
      refine GoH.callF 13 24 #[.agg #[.int .i64 ((List.getD L k zp).1), x74], .agg #[.int .i64 ((List.getD L k zp).1), (X k)]] (some 81) (by kernel_rfl) (one_yes (List.getD L k zp) (List.getD L k zp) x74 (X k) (hM97.rd 1 rfl) ((hX k (by omega)).kept0 hM97.kept) (rfl)) ?_
      rintro _ w102 ⟨rfl, m103⟩
      have hM104 := Mem.join hM97 m103
      have hS105 : Mem [] w0 w102 [⟨40, 2, (obj b77), 1, [.int .i64 ((List.getD L k zp).1), x74]⟩, ⟨3, 1, x74, (List.length ((List.getD L k zp).2)), (ivals .i64 ((List.getD L k zp).2))⟩, ⟨40, 2, (obj b58), 1, [.int .i64 ((List.getD L k zp).1), x55]⟩, ⟨3, 1, x55, (List.length ((List.getD L k zp).2)), (ivals .i64 ((List.getD L k zp).2))⟩] := hM104.sub (List.Sublist.cons_cons _ (List.Sublist.cons_cons _ (List.Sublist.cons_cons _ (List.Sublist.cons_cons _ (List.nil_sublist _)))))
      refine ⟨.bool true, rfl, .inr hS105, ?_⟩
      refine GoH.takeV 14 (.bool false) (.bool false) (some 82) (fun W_ => by kernel_rfl) rfl hS105 ?_
      refine GoH.takeV 15 (.bool false) (.bool false) (some 83) (fun W_ => by kernel_rfl) rfl hS105 ?_
      refine GoH.takeV 16 (.bool false) (.bool false) (some 84) (fun W_ => by kernel_rfl) rfl hS105 ?_
      refine GoH.takeV 17 (.pointer (some (⟨c2, 0, none⟩))) (.pointer (some (⟨c2, 0, none⟩))) (some 85) (fun W_ => by kernel_rfl) rfl hS105 ?_
      refine GoH.takeV 18 (u) (u) (some 86) (fun W_ => by kernel_rfl) rfl hS105 ?_
      refine GoH.takeV 19 (.int .i64 ((k : Nat) : Int)) (.int .i64 ((k : Nat) : Int)) (some 87) (fun W_ => by kernel_rfl) rfl hS105 ?_
      obtain ⟨p106, hp107, hq108⟩ := rd_at (i := ((k : Nat) : Int)) sT22 (hu.kept0 hS105.kept) k (by omega) (by first | omega | (dsimp only; omega))
      refine GoH.takeF 20 (.pointer (some p106)) (fun W_ => (Instr.indexAt 22 (u) (.int .i64 ((k : Nat) : Int))).run Try.prog W_ = .ok (.pointer (some p106)) W_) (some 88) (fun W_ => by kernel_rfl) (fun W_ hW_ => hq108 _ _) hS105 ?_
      refine GoH.takeV 21 (.pointer (some (Addr.add p106 0))) (.pointer (some (Addr.add p106 0))) (some 89) (fun W_ => by kernel_rfl) rfl hS105 ?_
      refine GoH.takeF 22 (.int .i64 ((List.getD L k zp).1)) (fun W_ => (Instr.loadAt 3 (.pointer (some (Addr.add p106 0)))).run Try.prog W_ = .ok (.int .i64 ((List.getD L k zp).1)) W_) (some 90) (fun W_ => by kernel_rfl) (fun W_ hW_ => c_load pE3 (hu.kept0 hW_.kept) (Cel.add (At.cel hp107) 0) (p_at0 (by first | omega | (dsimp only; omega)))) hS105 ?_
      refine GoH.takeF 23 (.int .i64 ((List.getD L k zp).1 + 1)) (fun W_ => (binOp .add 3 (.int .i64 ((List.getD L k zp).1)) (.int .i64 1)).run Try.prog W_ = .ok (.int .i64 ((List.getD L k zp).1 + 1)) W_) (some 91) (fun W_ => by kernel_rfl) (fun W_ hW_ => f_add (IntWalk.i64_in _ (by omega))) hS105 ?_
      refine GoH.takeV 25 (.int .i64 ((k : Nat) : Int)) (.int .i64 ((k : Nat) : Int)) (some 93) (fun W_ => by kernel_rfl) rfl hS105 ?_
      refine GoH.takeF 26 (.int .i64 (((k + 1) : Nat) : Int)) (fun W_ => (binOp .add 3 (.int .i64 ((k : Nat) : Int)) (.int .i64 1)).run Try.prog W_ = .ok (.int .i64 (((k + 1) : Nat) : Int)) W_) (some 94) (fun W_ => by kernel_rfl) (fun W_ hW_ => f_add (by rw [show ((k : Nat) : Int) + 1 = (((k + 1) : Nat) : Int) by omega]; exact IntWalk.i64_in _ (by omega))) hS105 ?_
      refine GoH.takeV 27 (u) (u) (some 95) (fun W_ => by kernel_rfl) rfl hS105 ?_
      refine GoH.takeF 28 (.int .i64 (((List.length L) : Nat) : Int)) (fun W_ => (Builtin.len_ #[22] 3 #[u]).run Try.prog W_ = .ok (.int .i64 (((List.length L) : Nat) : Int)) W_) (some 96) (fun W_ => by kernel_rfl) (fun W_ hW_ => f_slen sT22 (hu.kept0 hW_.kept) 3 _) hS105 ?_
      refine GoH.takeV 29 (.bool (decide ((((k + 1) : Nat) : Int) < (((List.length L) : Nat) : Int)))) (.bool (decide ((((k + 1) : Nat) : Int) < (((List.length L) : Nat) : Int)))) (some 97) (fun W_ => by kernel_rfl) rfl hS105 ?_
      have hP109 := hM104.perm (pullR [⟨40, 2, (obj b77), 1, [.int .i64 ((List.getD L k zp).1), x74]⟩, ⟨3, 1, x74, (List.length ((List.getD L k zp).2)), (ivals .i64 ((List.getD L k zp).2))⟩, ⟨40, 2, (obj b58), 1, [.int .i64 ((List.getD L k zp).1), x55]⟩, ⟨3, 1, x55, (List.length ((List.getD L k zp).2)), (ivals .i64 ((List.getD L k zp).2))⟩] (curR 64 40 38 3 c v t L X1 Y1 ((k : Nat) : Int)) (curR 64 40 38 3 c2 v2 t2 L X2 Y2 ((k : Nat) : Int)))
      refine GoH.callF 24 21 #[.pointer (some (⟨c2, 0, none⟩)), .int .i64 ((List.getD L k zp).1 + 1)] (some 92) (by kernel_rfl) (adv_c c2 v2 t2 L X2 Y2 ((k : Nat) : Int) (hc) (by omega) (by omega) ((List.getD L k zp).1 + 1) w102 (Mem.lend (R := (curR 64 40 38 3 c2 v2 t2 L X2 Y2 ((k : Nat) : Int))) (L := ([⟨40, 2, (obj b77), 1, [.int .i64 ((List.getD L k zp).1), x74]⟩, ⟨3, 1, x74, (List.length ((List.getD L k zp).2)), (ivals .i64 ((List.getD L k zp).2))⟩, ⟨40, 2, (obj b58), 1, [.int .i64 ((List.getD L k zp).1), x55]⟩, ⟨3, 1, x55, (List.length ((List.getD L k zp).2)), (ivals .i64 ((List.getD L k zp).2))⟩] ++ (curR 64 40 38 3 c v t L X1 Y1 ((k : Nat) : Int)))) hP109)) ?_
      rintro _ w112 ⟨rfl, m113⟩
      have hM110 := Mem.back (R := (curR 64 40 38 3 c2 v2 t2 L X2 Y2 ((k : Nat) : Int))) (L := ([⟨40, 2, (obj b77), 1, [.int .i64 ((List.getD L k zp).1), x74]⟩, ⟨3, 1, x74, (List.length ((List.getD L k zp).2)), (ivals .i64 ((List.getD L k zp).2))⟩, ⟨40, 2, (obj b58), 1, [.int .i64 ((List.getD L k zp).1), x55]⟩, ⟨3, 1, x55, (List.length ((List.getD L k zp).2)), (ivals .i64 ((List.getD L k zp).2))⟩] ++ (curR 64 40 38 3 c v t L X1 Y1 ((k : Nat) : Int)))) (R' := (curR 64 40 38 3 c2 v2 t2 L X2 Y2 (advP L ((k : Nat) : Int) ((List.getD L k zp).1 + 1)))) hP109 m113
      have hM111 : Mem [] w0 w112 (⟨40, 2, (obj b77), 1, [.int .i64 ((List.getD L k zp).1), x74]⟩ :: ⟨3, 1, x74, (List.length ((List.getD L k zp).2)), (ivals .i64 ((List.getD L k zp).2))⟩ :: ⟨40, 2, (obj b58), 1, [.int .i64 ((List.getD L k zp).1), x55]⟩ :: ⟨3, 1, x55, (List.length ((List.getD L k zp).2)), (ivals .i64 ((List.getD L k zp).2))⟩ :: ((curR 64 40 38 3 c v t L X1 Y1 ((k : Nat) : Int)) ++ (curR 64 40 38 3 c2 v2 t2 L X2 Y2 (advP L ((k : Nat) : Int) ((List.getD L k zp).1 + 1))))) := hM110.perm ((pullR [⟨40, 2, (obj b77), 1, [.int .i64 ((List.getD L k zp).1), x74]⟩, ⟨3, 1, x74, (List.length ((List.getD L k zp).2)), (ivals .i64 ((List.getD L k zp).2))⟩, ⟨40, 2, (obj b58), 1, [.int .i64 ((List.getD L k zp).1), x55]⟩, ⟨3, 1, x55, (List.length ((List.getD L k zp).2)), (ivals .i64 ((List.getD L k zp).2))⟩] (curR 64 40 38 3 c v t L X1 Y1 ((k : Nat) : Int)) (curR 64 40 38 3 c2 v2 t2 L X2 Y2 (advP L ((k : Nat) : Int) ((List.getD L k zp).1 + 1))))).symm
      have he114 : (advP L ((k : Nat) : Int) ((List.getD L k zp).1 + 1)) = ((k + 1 : Nat) : Int) := adv_next hc (by omega)
      have hM115 : Mem [] w0 w112 (⟨40, 2, (obj b77), 1, [.int .i64 ((List.getD L k zp).1), x74]⟩ :: ⟨3, 1, x74, (List.length ((List.getD L k zp).2)), (ivals .i64 ((List.getD L k zp).2))⟩ :: ⟨40, 2, (obj b58), 1, [.int .i64 ((List.getD L k zp).1), x55]⟩ :: ⟨3, 1, x55, (List.length ((List.getD L k zp).2)), (ivals .i64 ((List.getD L k zp).2))⟩ :: ((curR 64 40 38 3 c v t L X1 Y1 ((k : Nat) : Int)) ++ (curR 64 40 38 3 c2 v2 t2 L X2 Y2 ((k + 1 : Nat) : Int)))) := he114 ▸ hM111
      rw [he114]
      have hS116 : Mem [] w0 w112 [⟨40, 2, (obj b77), 1, [.int .i64 ((List.getD L k zp).1), x74]⟩, ⟨3, 1, x74, (List.length ((List.getD L k zp).2)), (ivals .i64 ((List.getD L k zp).2))⟩, ⟨40, 2, (obj b58), 1, [.int .i64 ((List.getD L k zp).1), x55]⟩, ⟨3, 1, x55, (List.length ((List.getD L k zp).2)), (ivals .i64 ((List.getD L k zp).2))⟩] := hM115.sub (List.Sublist.cons_cons _ (List.Sublist.cons_cons _ (List.Sublist.cons_cons _ (List.Sublist.cons_cons _ (List.nil_sublist _)))))
      refine ⟨.bool (decide (((k + 1 : Nat) : Int) < ((List.length L : Nat) : Int))), rfl, .inr hS116, ?_⟩
      refine GoH.takeF 30 (.bool false) (fun W_ => Try.prog.underlying 4 = some .bool ∧ W_ = W_ ∧ Value.bool false = .bool (!((decide (((k + 1 : Nat) : Int) < ((List.length L : Nat) : Int))) == (decide ((((k + 1) : Nat) : Int) < (((List.length L) : Nat) : Int)))))) (some 98) (fun W_ => by kernel_rfl) (fun W_ hW_ => ⟨by kernel_rfl, rfl, congrArg Value.bool (Eq.symm ((bne_dec (by omega)).symm))⟩) hS116 ?_
      refine GoH.takeV 31 (.bool false) (.bool false) (some 99) (fun W_ => by kernel_rfl) rfl hS116 ?_
      refine GoH.done [0, 3, 5, 7, 99] [(0, u), (3, .pointer (some (⟨c, 0, none⟩))), (5, .pointer (some (⟨c2, 0, none⟩))), (7, .int .i64 ((k : Nat) : Int)), (99, .bool false)] (by kernel_rfl) (by kernel_rfl) ?_
      have hM117 : Mem [] w0 w112 (((curR 64 40 38 3 c v t L X1 Y1 ((k : Nat) : Int)) ++ (curR 64 40 38 3 c2 v2 t2 L X2 Y2 ((k + 1 : Nat) : Int)))) := hM115.sub (List.Sublist.cons _ (List.Sublist.cons _ (List.Sublist.cons _ (List.Sublist.cons _ (List.Sublist.refl _)))))
      have o118 : (binOp .add 3 (.int .i64 ((k : Nat) : Int)) (.int .i64 1)).run Try.prog w112 = .ok (.int .i64 (((k + 1) : Nat) : Int)) w112 := f_add (by rw [show ((k : Nat) : Int) + 1 = (((k + 1) : Nat) : Int) by omega]; exact IntWalk.i64_in _ (by omega))
      refine GoS.run [0, 3, 5, 7] [.n, .n, .n, .n, .n, .h (.int .i64 (((k + 1) : Nat) : Int)), .n, .n, .n] _ [.code (csub (cd Try.f9) [1,1,1,1,0,1,0,0]), .inLoop (csub (cd Try.f9) [1,1,1,1,0,1,0,0]), .inBlock 0, .code (csub (cd Try.f9) [1,1,1,1,1])] [(0, u), (3, .pointer (some (⟨c, 0, none⟩))), (5, .pointer (some (⟨c2, 0, none⟩))), (7, .int .i64 (((k + 1) : Nat) : Int))] w112 (by kernel_rfl) (.cons o118 .nil) ?_
      exact ih ((k : Nat) : Int) ((k + 1 : Nat) : Int) (k + 1) _ (by omega) (by omega) (by omega) (by omega) (by omega) (hM117.sub (List.Sublist.refl _)) (by omega)
    ·
      have h2p : ¬ (((k : Nat) : Int) < (((List.length L) : Nat) : Int)) := of_decide_eq_false h2
      refine GoS.run [3, 5, 100] [.n, .n, .n, .n] _ [.inRegion (cops (csub (cd Try.f9) [1,1,1,1,1,0])) [1,2,3,4,5,6,7,8,9,10,11,12,13,14,15,16,17,18], .code (csub (cd Try.f9) [1,1,1,1,1,1])] [(3, .pointer (some (⟨c, 0, none⟩))), (5, .pointer (some (⟨c2, 0, none⟩))), (100, .pointer (some (⟨c, 0, none⟩)))] w (by kernel_rfl) .nil ?_
      have hP3 := hM.perm (pullL [] (curR 64 40 38 3 c v t L X1 Y1 a) (curR 64 40 38 3 c2 v2 t2 L X2 Y2 b))
      refine GoS.call [3, 5] 20 #[.pointer (some (⟨c, 0, none⟩))] (some 101) [.inRegion (cops (csub (cd Try.f9) [1,1,1,1,1,0])) [2,3,4,5,6,7,8,9,10,11,12,13,14,15,16,17,18], .code (csub (cd Try.f9) [1,1,1,1,1,1])] [(3, .pointer (some (⟨c, 0, none⟩))), (5, .pointer (some (⟨c2, 0, none⟩)))] (by kernel_rfl) (next_c c v t L X1 Y1 a (hc) (by omega) (by omega) w (Mem.lend (R := (curR 64 40 38 3 c v t L X1 Y1 a)) (L := ([] ++ (curR 64 40 38 3 c2 v2 t2 L X2 Y2 b))) hP3)) ?_
      rintro _ w6 ⟨rfl, m7⟩
      refine ⟨_, rfl, ?_⟩
      have hM4 := Mem.back (R := (curR 64 40 38 3 c v t L X1 Y1 a)) (L := ([] ++ (curR 64 40 38 3 c2 v2 t2 L X2 Y2 b))) (R' := (curR 64 40 38 3 c v t L X1 Y1 (nxtP L a))) hP3 m7
      have hM5 : Mem [] w0 w6 (((curR 64 40 38 3 c v t L X1 Y1 (nxtP L a)) ++ (curR 64 40 38 3 c2 v2 t2 L X2 Y2 b))) := hM4.perm ((pullL [] (curR 64 40 38 3 c v t L X1 Y1 (nxtP L a)) (curR 64 40 38 3 c2 v2 t2 L X2 Y2 b))).symm
      have he8 : (nxtP L a) = ((List.length L : Nat) : Int) := nxt_eq (by omega)
      have hM9 : Mem [] w0 w6 (((curR 64 40 38 3 c v t L X1 Y1 ((List.length L : Nat) : Int)) ++ (curR 64 40 38 3 c2 v2 t2 L X2 Y2 b))) := he8 ▸ hM5
      rw [he8]
      rw [show decide (((List.length L : Nat) : Int) < ((List.length L : Nat) : Int)) = false from decide_eq_false (by omega)]
      refine GoS.run [3, 5, 103, 104] [.n, .n, .n] _ [.inRegion (cops (csub (cd Try.f9) [1,1,1,1,1,0])) [5,6,7,8,9,10,11,12,13,14,15,16,17,18], .code (csub (cd Try.f9) [1,1,1,1,1,1])] [(3, .pointer (some (⟨c, 0, none⟩))), (5, .pointer (some (⟨c2, 0, none⟩))), (103, .bool true), (104, .pointer (some (⟨c, 0, none⟩)))] w6 (by kernel_rfl) .nil ?_
      have hP10 := hM9.perm (pullL [] (curR 64 40 38 3 c v t L X1 Y1 ((List.length L : Nat) : Int)) (curR 64 40 38 3 c2 v2 t2 L X2 Y2 b))
      refine GoS.call [3, 5, 103] 20 #[.pointer (some (⟨c, 0, none⟩))] (some 105) [.inRegion (cops (csub (cd Try.f9) [1,1,1,1,1,0])) [6,7,8,9,10,11,12,13,14,15,16,17,18], .code (csub (cd Try.f9) [1,1,1,1,1,1])] [(3, .pointer (some (⟨c, 0, none⟩))), (5, .pointer (some (⟨c2, 0, none⟩))), (103, .bool true)] (by kernel_rfl) (next_c c v t L X1 Y1 ((List.length L : Nat) : Int) (hc) (by omega) (by omega) w6 (Mem.lend (R := (curR 64 40 38 3 c v t L X1 Y1 ((List.length L : Nat) : Int))) (L := ([] ++ (curR 64 40 38 3 c2 v2 t2 L X2 Y2 b))) hP10)) ?_
      rintro _ w13 ⟨rfl, m14⟩
      refine ⟨_, rfl, ?_⟩
      have hM11 := Mem.back (R := (curR 64 40 38 3 c v t L X1 Y1 ((List.length L : Nat) : Int))) (L := ([] ++ (curR 64 40 38 3 c2 v2 t2 L X2 Y2 b))) (R' := (curR 64 40 38 3 c v t L X1 Y1 (nxtP L ((List.length L : Nat) : Int)))) hP10 m14
      have hM12 : Mem [] w0 w13 (((curR 64 40 38 3 c v t L X1 Y1 (nxtP L ((List.length L : Nat) : Int))) ++ (curR 64 40 38 3 c2 v2 t2 L X2 Y2 b))) := hM11.perm ((pullL [] (curR 64 40 38 3 c v t L X1 Y1 (nxtP L ((List.length L : Nat) : Int))) (curR 64 40 38 3 c2 v2 t2 L X2 Y2 b))).symm
      have he15 : (nxtP L ((List.length L : Nat) : Int)) = ((List.length L : Nat) : Int) := nxt_eq (by omega)
      have hM16 : Mem [] w0 w13 (((curR 64 40 38 3 c v t L X1 Y1 ((List.length L : Nat) : Int)) ++ (curR 64 40 38 3 c2 v2 t2 L X2 Y2 b))) := he15 ▸ hM12
      rw [he15]
      rw [show decide (((List.length L : Nat) : Int) < ((List.length L : Nat) : Int)) = false from decide_eq_false (by omega)]
      refine GoS.run [5, 108, 109] [.n, .n, .n, .n] _ [.inRegion (cops (csub (cd Try.f9) [1,1,1,1,1,0])) [10,11,12,13,14,15,16,17,18], .code (csub (cd Try.f9) [1,1,1,1,1,1])] [(5, .pointer (some (⟨c2, 0, none⟩))), (108, .bool true), (109, .pointer (some (⟨c, 0, none⟩)))] w13 (by kernel_rfl) .nil ?_
      have hP17 := hM16.perm (pullL [] (curR 64 40 38 3 c v t L X1 Y1 ((List.length L : Nat) : Int)) (curR 64 40 38 3 c2 v2 t2 L X2 Y2 b))
      refine GoS.call [5, 108] 21 #[.pointer (some (⟨c, 0, none⟩)), .int .i64 0] (some 110) [.inRegion (cops (csub (cd Try.f9) [1,1,1,1,1,0])) [11,12,13,14,15,16,17,18], .code (csub (cd Try.f9) [1,1,1,1,1,1])] [(5, .pointer (some (⟨c2, 0, none⟩))), (108, .bool true)] (by kernel_rfl) (adv_c c v t L X1 Y1 ((List.length L : Nat) : Int) (hc) (by omega) (by omega) 0 w13 (Mem.lend (R := (curR 64 40 38 3 c v t L X1 Y1 ((List.length L : Nat) : Int))) (L := ([] ++ (curR 64 40 38 3 c2 v2 t2 L X2 Y2 b))) hP17)) ?_
      rintro _ w20 ⟨rfl, m21⟩
      refine ⟨_, rfl, ?_⟩
      have hM18 := Mem.back (R := (curR 64 40 38 3 c v t L X1 Y1 ((List.length L : Nat) : Int))) (L := ([] ++ (curR 64 40 38 3 c2 v2 t2 L X2 Y2 b))) (R' := (curR 64 40 38 3 c v t L X1 Y1 (advP L ((List.length L : Nat) : Int) 0))) hP17 m21
      have hM19 : Mem [] w0 w20 (((curR 64 40 38 3 c v t L X1 Y1 (advP L ((List.length L : Nat) : Int) 0)) ++ (curR 64 40 38 3 c2 v2 t2 L X2 Y2 b))) := hM18.perm ((pullL [] (curR 64 40 38 3 c v t L X1 Y1 (advP L ((List.length L : Nat) : Int) 0)) (curR 64 40 38 3 c2 v2 t2 L X2 Y2 b))).symm
      have he22 : (advP L ((List.length L : Nat) : Int) 0) = ((List.length L : Nat) : Int) := adv_end _ (by omega)
      have hM23 : Mem [] w0 w20 (((curR 64 40 38 3 c v t L X1 Y1 ((List.length L : Nat) : Int)) ++ (curR 64 40 38 3 c2 v2 t2 L X2 Y2 b))) := he22 ▸ hM19
      rw [he22]
      rw [show decide (((List.length L : Nat) : Int) < ((List.length L : Nat) : Int)) = false from decide_eq_false (by omega)]
      refine GoS.run [113, 114] [.n, .n, .n, .n] _ [.inRegion (cops (csub (cd Try.f9) [1,1,1,1,1,0])) [15,16,17,18], .code (csub (cd Try.f9) [1,1,1,1,1,1])] [(113, .bool true), (114, .pointer (some (⟨c2, 0, none⟩)))] w20 (by kernel_rfl) .nil ?_
      have hP24 := hM23.perm (pullR [] (curR 64 40 38 3 c v t L X1 Y1 ((List.length L : Nat) : Int)) (curR 64 40 38 3 c2 v2 t2 L X2 Y2 b))
      refine GoS.call [113] 20 #[.pointer (some (⟨c2, 0, none⟩))] (some 115) [.inRegion (cops (csub (cd Try.f9) [1,1,1,1,1,0])) [16,17,18], .code (csub (cd Try.f9) [1,1,1,1,1,1])] [(113, .bool true)] (by kernel_rfl) (next_c c2 v2 t2 L X2 Y2 b (hc) (by omega) (by omega) w20 (Mem.lend (R := (curR 64 40 38 3 c2 v2 t2 L X2 Y2 b)) (L := ([] ++ (curR 64 40 38 3 c v t L X1 Y1 ((List.length L : Nat) : Int)))) hP24)) ?_
      rintro _ w27 ⟨rfl, m28⟩
      refine ⟨_, rfl, ?_⟩
      have hM25 := Mem.back (R := (curR 64 40 38 3 c2 v2 t2 L X2 Y2 b)) (L := ([] ++ (curR 64 40 38 3 c v t L X1 Y1 ((List.length L : Nat) : Int)))) (R' := (curR 64 40 38 3 c2 v2 t2 L X2 Y2 (nxtP L b))) hP24 m28
      have hM26 : Mem [] w0 w27 (((curR 64 40 38 3 c v t L X1 Y1 ((List.length L : Nat) : Int)) ++ (curR 64 40 38 3 c2 v2 t2 L X2 Y2 (nxtP L b)))) := hM25.perm ((pullR [] (curR 64 40 38 3 c v t L X1 Y1 ((List.length L : Nat) : Int)) (curR 64 40 38 3 c2 v2 t2 L X2 Y2 (nxtP L b)))).symm
      have he29 : (nxtP L b) = ((List.length L : Nat) : Int) := nxt_eq (by omega)
      have hM30 : Mem [] w0 w27 (((curR 64 40 38 3 c v t L X1 Y1 ((List.length L : Nat) : Int)) ++ (curR 64 40 38 3 c2 v2 t2 L X2 Y2 ((List.length L : Nat) : Int)))) := he29 ▸ hM26
      rw [he29]
      rw [show decide (((List.length L : Nat) : Int) < ((List.length L : Nat) : Int)) = false from decide_eq_false (by omega)]
      refine GoS.run [2] [.n, .n, .n, .n] _ [.code (csub (cd Try.f9) [1,1,1,1,1,1])] [(2, .bool true)] w27 (by kernel_rfl) .nil ?_
      refine GoS.ret (fn := Try.f9) (v := (.bool true)) Try.func9 (by kernel_rfl) ?_
      rw [hR]
      exact ⟨rfl, (hM30.sub (List.nil_sublist _)).below⟩

set_option maxHeartbeats 400000 in
theorem lwhole_c (w : World) (u : Value) (L : PS) (X : Nat → Value) (hu : Rd w 2 u L.length (pcells L X)) (hX : ∀ j, j < L.length → Rd w 1 (X j) (L.getD j zp).2.length (ivals .i64 (L.getD j zp).2)) :
    Calls Try.prog 9 #[u] w (fun e w' => e = .returned (.bool true) ∧ Below w.heap.size w w') := by
  obtain ⟨R, hR⟩ : ∃ R : Ending → World → Prop, R = (fun e w' => e = .returned (.bool true) ∧ Below w.heap.size w w') := ⟨_, rfl⟩
  rw [← hR]
  refine GoS.enter (n := 118) Try.func9 (by kernel_rfl) rfl [(0, u)] (by kernel_rfl) (by kernel_rfl) ?_
  have hM0 := Mem.start w
  refine GoS.run [0, 13] [.n, .n, .n, .n, .n, .n, .n] _ [.inRegion (cops (csub (cd Try.f9) [1,0])) [1,2,3,4,5,6], .code (csub (cd Try.f9) [1,1])] [(0, u), (13, u)] w (by kernel_rfl) .nil ?_
  refine GoS.call [0] 22 #[u] (some 14) [.inRegion (cops (csub (cd Try.f9) [1,0])) [2,3,4,5,6], .code (csub (cd Try.f9) [1,1])] [(0, u)] (by kernel_rfl) (new_c u L X (hu.kept0 hM0.kept) (fun j_ hj_ => (hX j_ hj_).kept0 hM0.kept)) ?_
  rintro _ w1 (⟨hc8, rfl, m2⟩ | ⟨hc8, c3, v4, t5, X6, Y7, rfl, m2⟩)
  ·
    refine ⟨_, rfl, ?_⟩
    have hM9 := Mem.join hM0 m2
    refine GoS.run [0, 3, 4, 18] [.n, .n, .n, .n, .n, .n, .n, .n, .n] _ [.inRegion (cops (csub (cd Try.f9) [1,1,0])) [1,2,3,4,5,6], .code (csub (cd Try.f9) [1,1,1])] [(0, u), (3, .pointer none), (4, .int .i64 (ckP (-1) L)), (18, u)] w1 (by kernel_rfl) .nil ?_
    refine GoS.call [0, 3, 4] 22 #[u] (some 19) [.inRegion (cops (csub (cd Try.f9) [1,1,0])) [2,3,4,5,6], .code (csub (cd Try.f9) [1,1,1])] [(0, u), (3, .pointer none), (4, .int .i64 (ckP (-1) L))] (by kernel_rfl) (new_c u L X (hu.kept0 hM9.kept) (fun j_ hj_ => (hX j_ hj_).kept0 hM9.kept)) ?_
    rintro _ w12 (⟨hc19, rfl, m13⟩ | ⟨hc19, c14, v15, t16, X17, Y18, rfl, m13⟩)
    ·
      refine ⟨_, rfl, ?_⟩
      have hM20 := Mem.join hM9 m13
      refine GoS.run [0, 3, 4, 5, 6] [.n, .n, .n, .n, .n, .n, .n, .n, .n] _ [.inRegion (cops (csub (cd Try.f9) [1,1,1,0,0])) [0,1,2,3,4,5,6,7,8,9,10], .code (csub (cd Try.f9) [1,1,1,0,1]), .code (csub (cd Try.f9) [1,1,1,1])] [(0, u), (3, .pointer none), (4, .int .i64 (ckP (-1) L)), (5, .pointer none), (6, .int .i64 (ckP (-1) L))] w12 (by kernel_rfl) .nil ?_
      refine GoS.call [0, 3, 4, 5, 6] 13 #[] (some 22) [.inRegion (cops (csub (cd Try.f9) [1,1,1,0,0])) [1,2,3,4,5,6,7,8,9,10], .code (csub (cd Try.f9) [1,1,1,0,1]), .code (csub (cd Try.f9) [1,1,1,1])] [(0, u), (3, .pointer none), (4, .int .i64 (ckP (-1) L)), (5, .pointer none), (6, .int .i64 (ckP (-1) L))] (by kernel_rfl) (awake_c w12) ?_
      rintro _ w23 ⟨rfl, m24⟩
      refine ⟨_, rfl, ?_⟩
      have hM25 := Mem.join hM20 m24
      have o26 : (IntKind.i64 = IntKind.i64) ∧ w23 = w23 ∧ Value.bool false = .bool ((ckP (-1) L) != (ckP (-1) L)) := ⟨rfl, rfl, congrArg Value.bool (Eq.symm (bne_self_eq_false _))⟩
      refine GoS.run [0, 3, 4, 5, 6, 32] [.n, .n, .n, .n, .h (.bool false), .n, .n, .n, .n, .n, .n] _ [.code (csub (cd Try.f9) [1,1,1,0,1]), .code (csub (cd Try.f9) [1,1,1,1])] [(0, u), (3, .pointer none), (4, .int .i64 (ckP (-1) L)), (5, .pointer none), (6, .int .i64 (ckP (-1) L)), (32, .bool ((ckP (-1) L) != 0))] w23 (by kernel_rfl) (.cons o26 .nil) ?_
      refine GoS.cond ((ckP (-1) L) != 0) [.code (csub (cd Try.f9) [1,1,1,0,1,0]), .code (csub (cd Try.f9) [1,1,1,1])] [.code (csub (cd Try.f9) [1,1,1,0,1,1]), .code (csub (cd Try.f9) [1,1,1,1])] (by kernel_rfl) (fun h27 => ?_) (fun h27 => ?_)
      ·
        have h27p : ¬ ((ckP (-1) L) = 0) := bne_iff_ne.1 h27
        refine GoS.run [4, 6] [.n, .n] _ [.inRegion (cops (csub (cd Try.f9) [1,1,1,0,1,0,0])) [0,1,2,3,4,5,6], .code (csub (cd Try.f9) [1,1,1,0,1,0,1]), .code (csub (cd Try.f9) [1,1,1,1])] [(4, .int .i64 (ckP (-1) L)), (6, .int .i64 (ckP (-1) L))] w23 (by kernel_rfl) .nil ?_
        refine GoS.call [4, 6] 13 #[] (some 33) [.inRegion (cops (csub (cd Try.f9) [1,1,1,0,1,0,0])) [1,2,3,4,5,6], .code (csub (cd Try.f9) [1,1,1,0,1,0,1]), .code (csub (cd Try.f9) [1,1,1,1])] [(4, .int .i64 (ckP (-1) L)), (6, .int .i64 (ckP (-1) L))] (by kernel_rfl) (awake_c w23) ?_
        rintro _ w28 ⟨rfl, m29⟩
        refine ⟨_, rfl, ?_⟩
        have hM30 := Mem.join hM25 m29
        have o31 : (IntKind.i64 = IntKind.i64) ∧ w28 = w28 ∧ Value.bool true = .bool ((ckP (-1) L) == (ckP (-1) L)) := ⟨rfl, rfl, congrArg Value.bool (Eq.symm (beq_self_eq_true _))⟩
        refine GoS.run [2] [.n, .n, .n, .h (.bool true), .n, .n, .n] _ [.code (csub (cd Try.f9) [1,1,1,0,1,0,1]), .code (csub (cd Try.f9) [1,1,1,1])] [(2, .bool true)] w28 (by kernel_rfl) (.cons o31 .nil) ?_
        refine GoS.ret (fn := Try.f9) (v := (.bool true)) Try.func9 (by kernel_rfl) ?_
        rw [hR]
        exact ⟨rfl, (hM30.sub (List.nil_sublist _)).below⟩
      ·
        exact absurd (p_eq h27) hc8
    ·
      exact absurd hc19 hc8
  ·
    refine ⟨_, rfl, ?_⟩
    have hM10 := Mem.join hM0 m2
    have hM11 : Mem [] w w1 ((curR 64 40 38 3 c3 v4 t5 L X6 Y7 (-1))) := Mem.perm hM10 (List.perm_append_comm)
    refine GoS.run [0, 3, 4, 18] [.n, .n, .n, .n, .n, .n, .n, .n, .n] _ [.inRegion (cops (csub (cd Try.f9) [1,1,0])) [1,2,3,4,5,6], .code (csub (cd Try.f9) [1,1,1])] [(0, u), (3, .pointer (some (⟨c3, 0, none⟩))), (4, .int .i64 0), (18, u)] w1 (by kernel_rfl) .nil ?_
    refine GoS.call [0, 3, 4] 22 #[u] (some 19) [.inRegion (cops (csub (cd Try.f9) [1,1,0])) [2,3,4,5,6], .code (csub (cd Try.f9) [1,1,1])] [(0, u), (3, .pointer (some (⟨c3, 0, none⟩))), (4, .int .i64 0)] (by kernel_rfl) (new_c u L X (hu.kept0 hM11.kept) (fun j_ hj_ => (hX j_ hj_).kept0 hM11.kept)) ?_
    rintro _ w32 (⟨hc39, rfl, m33⟩ | ⟨hc39, c34, v35, t36, X37, Y38, rfl, m33⟩)
    ·
      exact absurd hc8 hc39
    ·
      refine ⟨_, rfl, ?_⟩
      have hM41 := Mem.join hM11 m33
      have hM42 : Mem [] w w32 (((curR 64 40 38 3 c3 v4 t5 L X6 Y7 (-1)) ++ (curR 64 40 38 3 c34 v35 t36 L X37 Y38 (-1)))) := Mem.perm hM41 (List.perm_append_comm)
      refine GoS.run [0, 3, 4, 5, 6] [.n, .n, .n, .n, .n, .n, .n, .n, .n] _ [.inRegion (cops (csub (cd Try.f9) [1,1,1,0,0])) [0,1,2,3,4,5,6,7,8,9,10], .code (csub (cd Try.f9) [1,1,1,0,1]), .code (csub (cd Try.f9) [1,1,1,1])] [(0, u), (3, .pointer (some (⟨c3, 0, none⟩))), (4, .int .i64 0), (5, .pointer (some (⟨c34, 0, none⟩))), (6, .int .i64 0)] w32 (by kernel_rfl) .nil ?_
      refine GoS.call [0, 3, 4, 5, 6] 13 #[] (some 22) [.inRegion (cops (csub (cd Try.f9) [1,1,1,0,0])) [1,2,3,4,5,6,7,8,9,10], .code (csub (cd Try.f9) [1,1,1,0,1]), .code (csub (cd Try.f9) [1,1,1,1])] [(0, u), (3, .pointer (some (⟨c3, 0, none⟩))), (4, .int .i64 0), (5, .pointer (some (⟨c34, 0, none⟩))), (6, .int .i64 0)] (by kernel_rfl) (awake_c w32) ?_
      rintro _ w43 ⟨rfl, m44⟩
      refine ⟨_, rfl, ?_⟩
      have hM45 := Mem.join hM42 m44
      have o46 : (IntKind.i64 = IntKind.i64) ∧ w43 = w43 ∧ Value.bool false = .bool (0 != 0) := ⟨rfl, rfl, congrArg Value.bool (Eq.symm (bne_self_eq_false _))⟩
      have o47 : (IntKind.i64 = IntKind.i64) ∧ w43 = w43 ∧ Value.bool false = .bool (0 != 0) := ⟨rfl, rfl, congrArg Value.bool (Eq.symm (bne_self_eq_false _))⟩
      refine GoS.run [0, 3, 5, 7] [.n, .n, .n, .n, .h (.bool false), .n, .n, .n, .h (.bool false), .n, .n, .n, .n, .n, .n, .n, .n, .n, .n, .n] _ [.code (csub (cd Try.f9) [1,1,1,1,0,1,0,0]), .inLoop (csub (cd Try.f9) [1,1,1,1,0,1,0,0]), .inBlock 0, .code (csub (cd Try.f9) [1,1,1,1,1])] [(0, u), (3, .pointer (some (⟨c3, 0, none⟩))), (5, .pointer (some (⟨c34, 0, none⟩))), (7, .int .i64 0)] w43 (by kernel_rfl) (.cons o46 (.cons o47 .nil)) ?_
      exact lwhole_L u L X hu hX hc8 c3 c34 v4 t5 v35 t36 X6 Y7 X37 Y38 R hR (L.length + 1) (-1) (-1) 0 w43 (by omega) (by omega) (by decide) (by omega) (by omega) (hM45.sub (List.Sublist.refl _)) (by omega)


end Go.Proofs.Ythimiheeheaaaaa
