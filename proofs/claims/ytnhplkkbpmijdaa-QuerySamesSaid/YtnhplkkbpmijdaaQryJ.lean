/-
  The walks of Check, of both.
-/
import Derived.Test.YtnhplkkbpmijdaaQryF
import Derived.Test.YtnhplkkbpmijdaaQryI
namespace Go.Proofs.Ytnhplkkbpmijdaa
open Go Go.Gw Go.UtfP Go.TokP Go.QryP Go.RowKit
set_option linter.unusedVariables false
set_option linter.unusedSimpArgs false


set_option maxHeartbeats 1000000 in
theorem check_c {w : World} (q : Q) (h : Hd) (he : h = q.h) (v : Value) (hq : RdQ w q v) (hb : bulkQ q ≤ 1048576) :
    Calls Try.prog 13 #[(qA h v)] w (fun e w' => e = .returned (.int .i64 (checkQ q)) ∧ Mem [] w w' []) := by
  obtain ⟨L, hr, hl, hh, hs⟩ := hq.inv
  have hbl : bulkL q.l + q.h.field.length + q.h.text.length + 1 = bulkQ q := by cases q; rw [bulkQ_mk]; rfl
  have hln := bulk_len q.l
  obtain ⟨R, hR⟩ : ∃ R : Ending → World → Prop, R = (fun e w' => e = .returned (.int .i64 (checkQ q)) ∧ Mem [] w w' []) := ⟨_, rfl⟩
  rw [← hR]
  refine GoS.enter (n := 19) Try.func13 (by kernel_rfl) rfl [(0, (qA h v))] (by kernel_rfl) (by kernel_rfl) ?_
  have hM0 := Mem.start w
  obtain ⟨b1, w2, hr3, hM4⟩ := m_box (T := 25) (k := 8) (u := (qA h v)) rfl rfl hM0
  have hM5 : Mem [] w w2 [⟨25, 8, (obj b1), 1, (qR h v)⟩] := hM4
  have o6 : (Instr.box 25 ((qA h v))).run Try.prog w = .ok (pq b1) w2 := hr3
  have o7 : (Instr.loadAt 25 (pq b1)).run Try.prog w2 = .ok ((qA h v)) w2 := c_loads (ys := (qR h v)) aE25 (hM5.rd 0 rfl) (cel_obj b1 0) rfl (by intro j u hj; match j, hj with | 0, hj => exact hj | 1, hj => exact hj | 2, hj => exact hj | 3, hj => exact hj | 4, hj => exact hj | 5, hj => exact hj | 6, hj => exact hj | 7, hj => exact hj | n + 8, hj => cases hj)
  refine GoS.run [1, 6] [.n, .n, .u (pq b1) (w2), .n, .n, .n, .n, .n, .h ((qA h v))] _ [.inRegion (cops (csub (cd Try.f13) [1,0,0])) [1,2,3,4,5,6], .code (csub (cd Try.f13) [1,0,1]), .code (csub (cd Try.f13) [1,1])] [(1, pq b1), (6, (qA h v))] w2 (by kernel_rfl) (.cons o6 (.cons o7 .nil)) ?_
  refine GoS.call [1] 10 #[(qA h v)] (some 7) [.inRegion (cops (csub (cd Try.f13) [1,0,0])) [2,3,4,5,6], .code (csub (cd Try.f13) [1,0,1]), .code (csub (cd Try.f13) [1,1])] [(1, pq b1)] (by kernel_rfl) (size_c q h he v (hq.kept hM5.kept) (by omega)) ?_
  rintro _ w8 ⟨rfl, m9⟩
  refine ⟨_, rfl, ?_⟩
  have hM10 : Mem [] w w8 [⟨25, 8, (obj b1), 1, (qR h v)⟩] := Mem.join (R := []) hM5 m9
  refine GoS.run [1, 4, 12] [.n, .n, .n, .n, .n, .n, .n, .n, .n, .n, .n] _ [.inRegion (cops (csub (cd Try.f13) [1,0,1,0])) [3,4,5], .code (csub (cd Try.f13) [1,0,1,1]), .code (csub (cd Try.f13) [1,1])] [(1, pq b1), (4, .int .i64 (((deepQ q) : Nat) : Int)), (12, .bool (decide ((((sizeQ q) : Nat) : Int) > 64)))] w8 (by kernel_rfl) .nil ?_
  refine GoS.fork 12 (decide ((((sizeQ q) : Nat) : Int) > 64)) (by kernel_rfl) (fun h11 => ?_) (fun h11 => ?_)
  ·
    have h11p : (((sizeQ q) : Nat) : Int) > 64 := of_decide_eq_true h11
    refine GoS.run [1, 15] [.n, .n, .n] _ [.inRegion (cops (csub (cd Try.f13) [1,0,1,0])) [], .code (csub (cd Try.f13) [1,0,1,1]), .code (csub (cd Try.f13) [1,1])] [(1, pq b1), (15, .bool true)] w8 (by kernel_rfl) .nil ?_
    have hM12 : Mem [] w w8 [] := hM10.sub (cn (List.Sublist.refl _))
    refine GoS.run [2] [.n, .n, .n, .n, .n, .n] _ [.code (csub (cd Try.f13) [1,0,1,1,0,1]), .code (csub (cd Try.f13) [1,1])] [(2, .int .i64 4)] w8 (by kernel_rfl) .nil ?_
    refine GoS.ret (fn := Try.f13) (v := (.int .i64 4)) Try.func13 (by kernel_rfl) ?_
    rw [hR]
    exact ⟨ret_int (check_big (by omega)).symm, hM12.sub (List.nil_sublist _)⟩
  ·
    have h11p : ¬ ((((sizeQ q) : Nat) : Int) > 64) := of_decide_eq_false h11
    refine GoS.run [1, 15] [.n, .n, .n] _ [.inRegion (cops (csub (cd Try.f13) [1,0,1,0])) [], .code (csub (cd Try.f13) [1,0,1,1]), .code (csub (cd Try.f13) [1,1])] [(1, pq b1), (15, .bool (decide ((((deepQ q) : Nat) : Int) > 8)))] w8 (by kernel_rfl) .nil ?_
    refine GoS.run [1, 15] [.n] _ [.code (csub (cd Try.f13) [1,0,1,1]), .code (csub (cd Try.f13) [1,1])] [(1, pq b1), (15, .bool (decide ((((deepQ q) : Nat) : Int) > 8)))] w8 (by kernel_rfl) .nil ?_
    refine GoS.cond (decide ((((deepQ q) : Nat) : Int) > 8)) [.code (csub (cd Try.f13) [1,0,1,1,0]), .code (csub (cd Try.f13) [1,1])] [.code (csub (cd Try.f13) [1,0,1,1,1]), .code (csub (cd Try.f13) [1,1])] (by kernel_rfl) (fun h13 => ?_) (fun h13 => ?_)
    ·
      have h13p : (((deepQ q) : Nat) : Int) > 8 := of_decide_eq_true h13
      have hM14 : Mem [] w w8 [] := hM10.sub (cn (List.Sublist.refl _))
      refine GoS.run [2] [.n, .n, .n, .n] _ [.code (csub (cd Try.f13) [1,0,1,1,0,1]), .code (csub (cd Try.f13) [1,1])] [(2, .int .i64 4)] w8 (by kernel_rfl) .nil ?_
      refine GoS.ret (fn := Try.f13) (v := (.int .i64 4)) Try.func13 (by kernel_rfl) ?_
      rw [hR]
      exact ⟨ret_int (check_big (by omega)).symm, hM14.sub (List.nil_sublist _)⟩
    ·
      have h13p : ¬ ((((deepQ q) : Nat) : Int) > 8) := of_decide_eq_false h13
      refine GoS.run [1] [.n] _ [.code (csub (cd Try.f13) [1,1])] [(1, pq b1)] w8 (by kernel_rfl) .nil ?_
      have o15 : (Instr.loadAt 25 (pq b1)).run Try.prog w8 = .ok ((qA h v)) w8 := c_loads (ys := (qR h v)) aE25 (hM10.rd 0 rfl) (cel_obj b1 0) rfl (by intro j u hj; match j, hj with | 0, hj => exact hj | 1, hj => exact hj | 2, hj => exact hj | 3, hj => exact hj | 4, hj => exact hj | 5, hj => exact hj | 6, hj => exact hj | 7, hj => exact hj | n + 8, hj => cases hj)
      have hM16 : Mem [] w w8 [] := hM10.sub (cn (List.Sublist.refl _))
      refine GoS.run [16] [.n, .n, .n, .h ((qA h v))] _ [.inRegion (cops (csub (cd Try.f13) [1,1,0,0])) [1,2], .code (csub (cd Try.f13) [1,1,0,1]), .code (csub (cd Try.f13) [1,1,1])] [(16, (qA h v))] w8 (by kernel_rfl) (.cons o15 .nil) ?_
      refine GoS.call [] 19 #[(qA h v)] (some 17) [.inRegion (cops (csub (cd Try.f13) [1,1,0,0])) [2], .code (csub (cd Try.f13) [1,1,0,1]), .code (csub (cd Try.f13) [1,1,1])] [] (by kernel_rfl) (right_c q h he v (hq.kept hM16.kept) (by omega)) ?_
      rintro _ w17 ⟨rfl, m18⟩
      refine ⟨_, rfl, ?_⟩
      have hM19 : Mem [] w w17 [] := Mem.join (R := []) hM16 m18
      refine GoS.run [18] [.n, .n] _ [.code (csub (cd Try.f13) [1,1,0,1]), .code (csub (cd Try.f13) [1,1,1])] [(18, .bool (!(rightQ q)))] w17 (by kernel_rfl) .nil ?_
      refine GoS.cond (!(rightQ q)) [.code (csub (cd Try.f13) [1,1,0,1,0]), .code (csub (cd Try.f13) [1,1,1])] [.code (csub (cd Try.f13) [1,1,0,1,1]), .code (csub (cd Try.f13) [1,1,1])] (by kernel_rfl) (fun h20 => ?_) (fun h20 => ?_)
      ·
        refine GoS.run [2] [.n, .n, .n, .n] _ [.code (csub (cd Try.f13) [1,1,0,1,0,1]), .code (csub (cd Try.f13) [1,1,1])] [(2, .int .i64 20)] w17 (by kernel_rfl) .nil ?_
        refine GoS.ret (fn := Try.f13) (v := (.int .i64 20)) Try.func13 (by kernel_rfl) ?_
        rw [hR]
        exact ⟨ret_int (check_bad (by omega) (by have z := h20; simpa using z)).symm, hM19.sub (List.nil_sublist _)⟩
      ·
        refine GoS.run [] [.n] _ [.code (csub (cd Try.f13) [1,1,1])] [] w17 (by kernel_rfl) .nil ?_
        refine GoS.run [2] [.n, .n, .n, .n] _ [.code (csub (cd Try.f13) [1,1,1,1])] [(2, .int .i64 0)] w17 (by kernel_rfl) .nil ?_
        refine GoS.ret (fn := Try.f13) (v := (.int .i64 0)) Try.func13 (by kernel_rfl) ?_
        rw [hR]
        exact ⟨ret_int (check_good (by omega) (by have z := h20; simpa using z)).symm, hM19.sub (List.nil_sublist _)⟩

set_option maxHeartbeats 1000000 in
theorem rcheck_c {w : World} (q : Q) (h : Hd) (he : h = q.h) (v : Value) (hq : RdQ w q v) (hb : bulkQ q ≤ 1048576) :
    Calls Try.prog 14 #[(qA h v)] w (fun e w' => e = .returned (.int .i64 (checkQ q)) ∧ Mem [] w w' []) := by
  obtain ⟨L, hr, hl, hh, hs⟩ := hq.inv
  have hbl : bulkL q.l + q.h.field.length + q.h.text.length + 1 = bulkQ q := by cases q; rw [bulkQ_mk]; rfl
  have hln := bulk_len q.l
  obtain ⟨R, hR⟩ : ∃ R : Ending → World → Prop, R = (fun e w' => e = .returned (.int .i64 (checkQ q)) ∧ Mem [] w w' []) := ⟨_, rfl⟩
  rw [← hR]
  refine GoS.enter (n := 14) Try.func14 (by kernel_rfl) rfl [(0, (qA h v))] (by kernel_rfl) (by kernel_rfl) ?_
  have hM0 := Mem.start w
  obtain ⟨b1, w2, hr3, hM4⟩ := m_box (T := 25) (k := 8) (u := (qA h v)) rfl rfl hM0
  have hM5 : Mem [] w w2 [⟨25, 8, (obj b1), 1, (qR h v)⟩] := hM4
  have o6 : (Instr.box 25 ((qA h v))).run Try.prog w = .ok (pq b1) w2 := hr3
  have o7 : (Instr.loadAt 25 (pq b1)).run Try.prog w2 = .ok ((qA h v)) w2 := c_loads (ys := (qR h v)) aE25 (hM5.rd 0 rfl) (cel_obj b1 0) rfl (by intro j u hj; match j, hj with | 0, hj => exact hj | 1, hj => exact hj | 2, hj => exact hj | 3, hj => exact hj | 4, hj => exact hj | 5, hj => exact hj | 6, hj => exact hj | 7, hj => exact hj | n + 8, hj => cases hj)
  refine GoS.run [1, 3] [.n, .n, .u (pq b1) (w2), .n, .n, .n, .n, .n, .h ((qA h v))] _ [.inRegion (cops (csub (cd Try.f14) [1,0,0])) [1,2,3,4,5,6,7], .code (csub (cd Try.f14) [1,0,1]), .code (csub (cd Try.f14) [1,1])] [(1, pq b1), (3, (qA h v))] w2 (by kernel_rfl) (.cons o6 (.cons o7 .nil)) ?_
  refine GoS.call [1] 11 #[(qA h v)] (some 4) [.inRegion (cops (csub (cd Try.f14) [1,0,0])) [2,3,4,5,6,7], .code (csub (cd Try.f14) [1,0,1]), .code (csub (cd Try.f14) [1,1])] [(1, pq b1)] (by kernel_rfl) (parts_c q h he v (hq.kept hM5.kept) (by omega)) ?_
  rintro _ w8 ⟨rfl, m9⟩
  refine ⟨_, rfl, ?_⟩
  have hM10 : Mem [] w w8 [⟨25, 8, (obj b1), 1, (qR h v)⟩] := Mem.join (R := []) hM5 m9
  refine GoS.run [1, 6] [.n, .n] _ [.inRegion (cops (csub (cd Try.f14) [1,0,0])) [4,5,6,7], .code (csub (cd Try.f14) [1,0,1]), .code (csub (cd Try.f14) [1,1])] [(1, pq b1), (6, .bool (decide ((((sizeQ q) : Nat) : Int) > 64)))] w8 (by kernel_rfl) .nil ?_
  refine GoS.fork 6 (decide ((((sizeQ q) : Nat) : Int) > 64)) (by kernel_rfl) (fun h11 => ?_) (fun h11 => ?_)
  ·
    have h11p : (((sizeQ q) : Nat) : Int) > 64 := of_decide_eq_true h11
    refine GoS.run [1, 10] [.n, .n, .n, .n] _ [.inRegion (cops (csub (cd Try.f14) [1,0,0])) [], .code (csub (cd Try.f14) [1,0,1]), .code (csub (cd Try.f14) [1,1])] [(1, pq b1), (10, .bool true)] w8 (by kernel_rfl) .nil ?_
    have hM16 : Mem [] w w8 [] := hM10.sub (cn (List.Sublist.refl _))
    refine GoS.run [2] [.n, .n, .n, .n, .n, .n] _ [.code (csub (cd Try.f14) [1,0,1,0,1]), .code (csub (cd Try.f14) [1,1])] [(2, .int .i64 4)] w8 (by kernel_rfl) .nil ?_
    refine GoS.ret (fn := Try.f14) (v := (.int .i64 4)) Try.func14 (by kernel_rfl) ?_
    rw [hR]
    exact ⟨ret_int (check_big (by omega)).symm, hM16.sub (List.nil_sublist _)⟩
  ·
    have h11p : ¬ ((((sizeQ q) : Nat) : Int) > 64) := of_decide_eq_false h11
    have o12 : (Instr.loadAt 25 (pq b1)).run Try.prog w8 = .ok ((qA h v)) w8 := c_loads (ys := (qR h v)) aE25 (hM10.rd 0 rfl) (cel_obj b1 0) rfl (by intro j u hj; match j, hj with | 0, hj => exact hj | 1, hj => exact hj | 2, hj => exact hj | 3, hj => exact hj | 4, hj => exact hj | 5, hj => exact hj | 6, hj => exact hj | 7, hj => exact hj | n + 8, hj => cases hj)
    refine GoS.run [1, 6, 7] [.h ((qA h v))] _ [.inRegion (cops (csub (cd Try.f14) [1,0,0])) [5,6,7], .code (csub (cd Try.f14) [1,0,1]), .code (csub (cd Try.f14) [1,1])] [(1, pq b1), (6, .bool false), (7, (qA h v))] w8 (by kernel_rfl) (.cons o12 .nil) ?_
    refine GoS.call [1, 6] 12 #[(qA h v)] (some 8) [.inRegion (cops (csub (cd Try.f14) [1,0,0])) [6,7], .code (csub (cd Try.f14) [1,0,1]), .code (csub (cd Try.f14) [1,1])] [(1, pq b1), (6, .bool false)] (by kernel_rfl) (deep_c q h he v (hq.kept hM10.kept) (by omega)) ?_
    rintro _ w13 ⟨rfl, m14⟩
    refine ⟨_, rfl, ?_⟩
    have hM15 : Mem [] w w13 [⟨25, 8, (obj b1), 1, (qR h v)⟩] := Mem.join (R := []) hM10 m14
    refine GoS.run [1, 10] [.n, .n] _ [.inRegion (cops (csub (cd Try.f14) [1,0,0])) [], .code (csub (cd Try.f14) [1,0,1]), .code (csub (cd Try.f14) [1,1])] [(1, pq b1), (10, .bool (decide ((((deepQ q) : Nat) : Int) > 8)))] w13 (by kernel_rfl) .nil ?_
    refine GoS.run [1, 10] [.n] _ [.code (csub (cd Try.f14) [1,0,1]), .code (csub (cd Try.f14) [1,1])] [(1, pq b1), (10, .bool (decide ((((deepQ q) : Nat) : Int) > 8)))] w13 (by kernel_rfl) .nil ?_
    refine GoS.cond (decide ((((deepQ q) : Nat) : Int) > 8)) [.code (csub (cd Try.f14) [1,0,1,0]), .code (csub (cd Try.f14) [1,1])] [.code (csub (cd Try.f14) [1,0,1,1]), .code (csub (cd Try.f14) [1,1])] (by kernel_rfl) (fun h17 => ?_) (fun h17 => ?_)
    ·
      have h17p : (((deepQ q) : Nat) : Int) > 8 := of_decide_eq_true h17
      have hM18 : Mem [] w w13 [] := hM15.sub (cn (List.Sublist.refl _))
      refine GoS.run [2] [.n, .n, .n, .n] _ [.code (csub (cd Try.f14) [1,0,1,0,1]), .code (csub (cd Try.f14) [1,1])] [(2, .int .i64 4)] w13 (by kernel_rfl) .nil ?_
      refine GoS.ret (fn := Try.f14) (v := (.int .i64 4)) Try.func14 (by kernel_rfl) ?_
      rw [hR]
      exact ⟨ret_int (check_big (by omega)).symm, hM18.sub (List.nil_sublist _)⟩
    ·
      have h17p : ¬ ((((deepQ q) : Nat) : Int) > 8) := of_decide_eq_false h17
      refine GoS.run [1] [.n] _ [.code (csub (cd Try.f14) [1,1])] [(1, pq b1)] w13 (by kernel_rfl) .nil ?_
      have o19 : (Instr.loadAt 25 (pq b1)).run Try.prog w13 = .ok ((qA h v)) w13 := c_loads (ys := (qR h v)) aE25 (hM15.rd 0 rfl) (cel_obj b1 0) rfl (by intro j u hj; match j, hj with | 0, hj => exact hj | 1, hj => exact hj | 2, hj => exact hj | 3, hj => exact hj | 4, hj => exact hj | 5, hj => exact hj | 6, hj => exact hj | 7, hj => exact hj | n + 8, hj => cases hj)
      have hM20 : Mem [] w w13 [] := hM15.sub (cn (List.Sublist.refl _))
      refine GoS.run [11] [.n, .n, .n, .h ((qA h v))] _ [.inRegion (cops (csub (cd Try.f14) [1,1,0,0])) [1,2], .code (csub (cd Try.f14) [1,1,0,1]), .code (csub (cd Try.f14) [1,1,1])] [(11, (qA h v))] w13 (by kernel_rfl) (.cons o19 .nil) ?_
      refine GoS.call [] 20 #[(qA h v)] (some 12) [.inRegion (cops (csub (cd Try.f14) [1,1,0,0])) [2], .code (csub (cd Try.f14) [1,1,0,1]), .code (csub (cd Try.f14) [1,1,1])] [] (by kernel_rfl) (rright_c q h he v (hq.kept hM20.kept) (by omega)) ?_
      rintro _ w21 ⟨rfl, m22⟩
      refine ⟨_, rfl, ?_⟩
      have hM23 : Mem [] w w21 [] := Mem.join (R := []) hM20 m22
      refine GoS.run [13] [.n, .n] _ [.code (csub (cd Try.f14) [1,1,0,1]), .code (csub (cd Try.f14) [1,1,1])] [(13, .bool (!(rightQ q)))] w21 (by kernel_rfl) .nil ?_
      refine GoS.cond (!(rightQ q)) [.code (csub (cd Try.f14) [1,1,0,1,0]), .code (csub (cd Try.f14) [1,1,1])] [.code (csub (cd Try.f14) [1,1,0,1,1]), .code (csub (cd Try.f14) [1,1,1])] (by kernel_rfl) (fun h24 => ?_) (fun h24 => ?_)
      ·
        refine GoS.run [2] [.n, .n, .n, .n] _ [.code (csub (cd Try.f14) [1,1,0,1,0,1]), .code (csub (cd Try.f14) [1,1,1])] [(2, .int .i64 20)] w21 (by kernel_rfl) .nil ?_
        refine GoS.ret (fn := Try.f14) (v := (.int .i64 20)) Try.func14 (by kernel_rfl) ?_
        rw [hR]
        exact ⟨ret_int (check_bad (by omega) (by have z := h24; simpa using z)).symm, hM23.sub (List.nil_sublist _)⟩
      ·
        refine GoS.run [] [.n] _ [.code (csub (cd Try.f14) [1,1,1])] [] w21 (by kernel_rfl) .nil ?_
        refine GoS.run [2] [.n, .n, .n, .n] _ [.code (csub (cd Try.f14) [1,1,1,1])] [(2, .int .i64 0)] w21 (by kernel_rfl) .nil ?_
        refine GoS.ret (fn := Try.f14) (v := (.int .i64 0)) Try.func14 (by kernel_rfl) ?_
        rw [hR]
        exact ⟨ret_int (check_good (by omega) (by have z := h24; simpa using z)).symm, hM23.sub (List.nil_sublist _)⟩


end Go.Proofs.Ytnhplkkbpmijdaa
