/-
  The walk of UtfBack: true for all lists and texts of at most 2^20 parts.
-/
import Derived.Test.YteddiaonklkdiaaUtfG
import Derived.Test.YteddiaonklkdiaaUtfL
namespace Go.Proofs.Yteddiaonklkdiaa
open Go Go.Gw Go.UtfP Go.RowKit
set_option linter.unusedVariables false
set_option linter.unusedSimpArgs false


set_option maxHeartbeats 400000 in
theorem lback_c (v u : Value) (l m : List Int) (s : List UInt8) (w : World) (hv : Rd w 1 v l.length (ivals .i64 l)) (hu : Rd w 1 u m.length (ivals .i64 m)) (h1 : l.length ≤ 1048576) (h2 : m.length ≤ 1048576) (h3 : s.length ≤ 1048576) :
    Calls Try.prog 6 #[v, u, .string (sb s)] w (fun e w' => e = .returned (.bool true) ∧ Below w.heap.size w w') := by
  obtain ⟨R, hR⟩ : ∃ R : Ending → World → Prop, R = (fun e w' => e = .returned (.bool true) ∧ Below w.heap.size w w') := ⟨_, rfl⟩
  rw [← hR]
  refine GoS.enter (n := 76) Try.func6 (by kernel_rfl) rfl [(0, v), (1, u), (2, .string (sb s))] (by kernel_rfl) (by kernel_rfl) ?_
  have hM0 := Mem.start w
  refine GoS.run [0, 1, 2, 18] [.n, .n, .n, .n, .n, .n, .n] _ [.inRegion (cops (csub (cd Try.f6) [1,0])) [1,2,3,4,5,6], .code (csub (cd Try.f6) [1,1])] [(0, v), (1, u), (2, .string (sb s)), (18, v)] w (by kernel_rfl) .nil ?_
  refine GoS.call [0, 1, 2] 9 #[v] (some 19) [.inRegion (cops (csub (cd Try.f6) [1,0])) [2,3,4,5,6], .code (csub (cd Try.f6) [1,1])] [(0, v), (1, u), (2, .string (sb s))] (by kernel_rfl) (encode_c v l w (hv.kept0 hM0.kept) (by first | omega | (have q1 := encT_len l; have q2 := encT_len m; rw [List.length_append]; omega) | (have q3 := @decL_len s; omega))) ?_
  rintro _ w1 ⟨rfl, m2⟩
  refine ⟨_, rfl, ?_⟩
  have hM3 := Mem.join hM0 m2
  refine GoS.run [0, 1, 2, 7, 8, 23] [.n, .n, .n, .n, .n, .n, .n, .n, .n] _ [.inRegion (cops (csub (cd Try.f6) [1,1,0])) [1,2,3,4,5,6], .code (csub (cd Try.f6) [1,1,1])] [(0, v), (1, u), (2, .string (sb s)), (7, .string (sb (encT l))), (8, .int .i64 (encE l)), (23, u)] w1 (by kernel_rfl) .nil ?_
  refine GoS.call [0, 1, 2, 7, 8] 9 #[u] (some 24) [.inRegion (cops (csub (cd Try.f6) [1,1,0])) [2,3,4,5,6], .code (csub (cd Try.f6) [1,1,1])] [(0, v), (1, u), (2, .string (sb s)), (7, .string (sb (encT l))), (8, .int .i64 (encE l))] (by kernel_rfl) (encode_c u m w1 (hu.kept0 hM3.kept) (by first | omega | (have q1 := encT_len l; have q2 := encT_len m; rw [List.length_append]; omega) | (have q3 := @decL_len s; omega))) ?_
  rintro _ w4 ⟨rfl, m5⟩
  refine ⟨_, rfl, ?_⟩
  have hM6 := Mem.join hM3 m5
  refine GoS.run [0, 1, 2, 7, 8, 9, 10] [.n, .n, .n, .n, .n, .n, .n, .n, .n] _ [.inRegion (cops (csub (cd Try.f6) [1,1,1,0,0])) [0,1], .code (csub (cd Try.f6) [1,1,1,0,1]), .code (csub (cd Try.f6) [1,1,1,1])] [(0, v), (1, u), (2, .string (sb s)), (7, .string (sb (encT l))), (8, .int .i64 (encE l)), (9, .string (sb (encT m))), (10, .int .i64 (encE m))] w4 (by kernel_rfl) .nil ?_
  refine GoS.call [0, 1, 2, 7, 8, 9, 10] 11 #[] (some 27) [.inRegion (cops (csub (cd Try.f6) [1,1,1,0,0])) [1], .code (csub (cd Try.f6) [1,1,1,0,1]), .code (csub (cd Try.f6) [1,1,1,1])] [(0, v), (1, u), (2, .string (sb s)), (7, .string (sb (encT l))), (8, .int .i64 (encE l)), (9, .string (sb (encT m))), (10, .int .i64 (encE m))] (by kernel_rfl) (awake_c w4) ?_
  rintro _ w7 ⟨rfl, m8⟩
  refine ⟨_, rfl, ?_⟩
  have hM9 := Mem.join hM6 m8
  refine GoS.run [0, 1, 2, 7, 9, 10, 31] [.n, .n, .n, .n, .n, .n, .n, .n, .n, .n] _ [.inRegion (cops (csub (cd Try.f6) [1,1,1,1,0,0])) [3,4,5], .code (csub (cd Try.f6) [1,1,1,1,0,1]), .code (csub (cd Try.f6) [1,1,1,1,1])] [(0, v), (1, u), (2, .string (sb s)), (7, .string (sb (encT l))), (9, .string (sb (encT m))), (10, .int .i64 (encE m)), (31, .bool ((encE l) == 0))] w7 (by kernel_rfl) .nil ?_
  refine GoS.fork 31 ((encE l) == 0) (by kernel_rfl) (fun h10 => ?_) (fun h10 => ?_)
  ·
    have h10p : (encE l) = 0 := eq_of_beq h10
    refine GoS.run [0, 1, 2, 7, 9, 34] [.n, .n, .n] _ [.inRegion (cops (csub (cd Try.f6) [1,1,1,1,0,0])) [], .code (csub (cd Try.f6) [1,1,1,1,0,1]), .code (csub (cd Try.f6) [1,1,1,1,1])] [(0, v), (1, u), (2, .string (sb s)), (7, .string (sb (encT l))), (9, .string (sb (encT m))), (34, .bool ((encE m) == 0))] w7 (by kernel_rfl) .nil ?_
    refine GoS.run [0, 1, 2, 7, 9, 34] [.n] _ [.code (csub (cd Try.f6) [1,1,1,1,0,1]), .code (csub (cd Try.f6) [1,1,1,1,1])] [(0, v), (1, u), (2, .string (sb s)), (7, .string (sb (encT l))), (9, .string (sb (encT m))), (34, .bool ((encE m) == 0))] w7 (by kernel_rfl) .nil ?_
    refine GoS.cond ((encE m) == 0) [.code (csub (cd Try.f6) [1,1,1,1,0,1,0]), .code (csub (cd Try.f6) [1,1,1,1,1])] [.code (csub (cd Try.f6) [1,1,1,1,0,1,1]), .code (csub (cd Try.f6) [1,1,1,1,1])] (by kernel_rfl) (fun h11 => ?_) (fun h11 => ?_)
    ·
      have h11p : (encE m) = 0 := eq_of_beq h11
      have o12 : (binOp .add 9 (.string (sb (encT l))) (.string (sb (encT m)))).run Try.prog w7 = .ok (.string (sb ((encT l) ++ (encT m)))) w7 := f_stradd (by have q1 := encT_len l; have q2 := encT_len m; omega)
      refine GoS.run [0, 1, 2, 38] [.n, .n, .n, .n, .h (.string (sb ((encT l) ++ (encT m))))] _ [.inRegion (cops (csub (cd Try.f6) [1,1,1,1,0,1,0,0])) [3,4,5,6,7,8], .code (csub (cd Try.f6) [1,1,1,1,0,1,0,1]), .code (csub (cd Try.f6) [1,1,1,1,1])] [(0, v), (1, u), (2, .string (sb s)), (38, .string (sb ((encT l) ++ (encT m))))] w7 (by kernel_rfl) (.cons o12 .nil) ?_
      refine GoS.call [0, 1, 2] 13 #[.string (sb ((encT l) ++ (encT m)))] (some 39) [.inRegion (cops (csub (cd Try.f6) [1,1,1,1,0,1,0,0])) [4,5,6,7,8], .code (csub (cd Try.f6) [1,1,1,1,0,1,0,1]), .code (csub (cd Try.f6) [1,1,1,1,1])] [(0, v), (1, u), (2, .string (sb s))] (by kernel_rfl) (decode_c ((encT l) ++ (encT m)) (by first | omega | (have q1 := encT_len l; have q2 := encT_len m; rw [List.length_append]; omega) | (have q3 := @decL_len s; omega)) w7) ?_
      rintro _ w13 ⟨v16, rfl, m14⟩
      refine ⟨_, rfl, ?_⟩
      have hM15 := Mem.join hM9 m14
      have o31 : (IntKind.i64 = IntKind.i64) ∧ w13 = w13 ∧ Value.bool false = .bool ((decE ((encT l) ++ (encT m))) != 0) := ⟨rfl, rfl, congrArg Value.bool (Eq.symm ((dec_two h10 h11).2))⟩
      obtain ⟨v17, w18, hr19, hM20⟩ := m_lit sT22 hM15 (n := 0) (parts := #[]) (cs := []) (by decide) (by kernel_rfl) rfl
      have o32 : (Instr.buildSlice 22 0 #[]).run Try.prog w13 = .ok v17 w18 := hr19
      obtain ⟨v21, w22, hr23, hM24⟩ := m_append sT22 hM20 0 rfl (hv.kept0 hM20.kept) (ivals_one .i64 l) (by first | omega | ((try dsimp only); omega) | (simp; omega)) (by first | omega | ((try dsimp only); omega) | (simp; omega)) 22
      have hM25 : Mem [] w w22 [⟨3, 1, v21, (List.length l), (ivals .i64 l)⟩, ⟨3, 1, v16, (List.length (decL ((encT l) ++ (encT m)))), (ivals .i64 (decL ((encT l) ++ (encT m))))⟩] := hM24.cast (by simp [ivals, svals, bvals, nvals, u8s])
      have o33 : (Builtin.append_ #[22, 22] 22 #[v17, v]).run Try.prog w18 = .ok v21 w22 := hr23
      obtain ⟨v26, w27, hr28, hM29⟩ := m_append sT22 hM25 0 rfl (hu.kept0 hM25.kept) (ivals_one .i64 m) (by first | omega | ((try dsimp only); omega) | (simp; omega)) (by first | omega | ((try dsimp only); omega) | (simp; omega)) 22
      have hM30 : Mem [] w w27 [⟨3, 1, v26, (List.length (l ++ m)), (ivals .i64 (l ++ m))⟩, ⟨3, 1, v16, (List.length (decL ((encT l) ++ (encT m)))), (ivals .i64 (decL ((encT l) ++ (encT m))))⟩] := hM29.cast (by simp [ivals, svals, bvals, nvals, u8s])
      have o34 : (Builtin.append_ #[22, 22] 22 #[v21, u]).run Try.prog w22 = .ok v26 w27 := hr28
      refine GoS.run [2, 44, 45, 50] [.n, .n, .n, .n, .n, .n, .n, .n, .n, .h (.bool false), .n, .n, .u (v17) (w18), .n, .u (v21) (w22), .n, .u (v26) (w27)] _ [.inRegion (cops (csub (cd Try.f6) [1,1,1,1,0,1,0,1,0])) [9,10,11], .code (csub (cd Try.f6) [1,1,1,1,0,1,0,1,1]), .code (csub (cd Try.f6) [1,1,1,1,1])] [(2, .string (sb s)), (44, .bool false), (45, v16), (50, v26)] w27 (by kernel_rfl) (.cons o31 (.cons o32 (.cons o33 (.cons o34 .nil)))) ?_
      refine GoS.call [2, 44] 12 #[v16, v26] (some 51) [.inRegion (cops (csub (cd Try.f6) [1,1,1,1,0,1,0,1,0])) [10,11], .code (csub (cd Try.f6) [1,1,1,1,0,1,0,1,1]), .code (csub (cd Try.f6) [1,1,1,1,1])] [(2, .string (sb s)), (44, .bool false)] (by kernel_rfl) (numbers_yes v16 v26 (decL ((encT l) ++ (encT m))) (l ++ m) w27 (hM30.rd 1 rfl) (hM30.rd 0 rfl) ((dec_two h10 h11).1)) ?_
      rintro _ w35 ⟨rfl, d36⟩
      refine ⟨_, rfl, ?_⟩
      have hM37 := hM30.dr d36
      have hM38 : Mem [] w w35 [] := hM37.sub (List.Sublist.cons _ (List.Sublist.cons _ (List.Sublist.refl _)))
      refine GoS.run [2] [.n, .n, .n, .n, .n] _ [.code (csub (cd Try.f6) [1,1,1,1,1])] [(2, .string (sb s))] w35 (by kernel_rfl) .nil ?_
      refine GoS.run [2, 55] [.n, .n, .n] _ [.inRegion (cops (csub (cd Try.f6) [1,1,1,1,1,0])) [1,2,3,4,5,6], .code (csub (cd Try.f6) [1,1,1,1,1,1])] [(2, .string (sb s)), (55, .string (sb s))] w35 (by kernel_rfl) .nil ?_
      refine GoS.call [2] 13 #[.string (sb s)] (some 56) [.inRegion (cops (csub (cd Try.f6) [1,1,1,1,1,0])) [2,3,4,5,6], .code (csub (cd Try.f6) [1,1,1,1,1,1])] [(2, .string (sb s))] (by kernel_rfl) (decode_c s (by first | omega | (have q1 := encT_len l; have q2 := encT_len m; rw [List.length_append]; omega) | (have q3 := @decL_len s; omega)) w35) ?_
      rintro _ w39 ⟨v42, rfl, m40⟩
      refine ⟨_, rfl, ?_⟩
      have hM41 := Mem.join hM38 m40
      refine GoS.run [2, 13, 60] [.n, .n, .n, .n, .n, .n, .n, .n, .n, .n, .n, .n] _ [.code (csub (cd Try.f6) [1,1,1,1,1,1,0,1]), .code (csub (cd Try.f6) [1,1,1,1,1,1,1])] [(2, .string (sb s)), (13, v42), (60, .bool ((decE s) != 0))] w39 (by kernel_rfl) .nil ?_
      refine GoS.cond ((decE s) != 0) [.code (csub (cd Try.f6) [1,1,1,1,1,1,0,1,0]), .code (csub (cd Try.f6) [1,1,1,1,1,1,1])] [.code (csub (cd Try.f6) [1,1,1,1,1,1,0,1,1]), .code (csub (cd Try.f6) [1,1,1,1,1,1,1])] (by kernel_rfl) (fun h43 => ?_) (fun h43 => ?_)
      ·
        have h43p : ¬ ((decE s) = 0) := bne_iff_ne.1 h43
        have o44 : (Builtin.len_ #[22] 3 #[v42]).run Try.prog w39 = .ok (.int .i64 (((List.length (decL s)) : Nat) : Int)) w39 := f_slen sT22 (hM41.rd 0 rfl) 3 _
        have o45 : (IntKind.i64 = IntKind.i64) ∧ w39 = w39 ∧ Value.bool true = .bool ((((List.length (decL s)) : Nat) : Int) == 0) := ⟨rfl, rfl, congrArg Value.bool (Eq.symm (by rw [dec_none h43]; rfl))⟩
        have hM46 : Mem [] w w39 [] := hM41.sub (List.Sublist.cons _ (List.Sublist.refl _))
        refine GoS.run [6] [.n, .n, .n, .h (.int .i64 (((List.length (decL s)) : Nat) : Int)), .h (.bool true), .n, .n] _ [.code (csub (cd Try.f6) [1,1,1,1,1,1,0,1,0,1]), .code (csub (cd Try.f6) [1,1,1,1,1,1,1])] [(6, .bool true)] w39 (by kernel_rfl) (.cons o44 (.cons o45 .nil)) ?_
        refine GoS.ret (fn := Try.f6) (v := (.bool true)) Try.func6 (by kernel_rfl) ?_
        rw [hR]
        exact ⟨rfl, hM46.below⟩
      ·
        have h43p : (decE s) = 0 := p_eq h43
        refine GoS.run [2, 13] [.n] _ [.code (csub (cd Try.f6) [1,1,1,1,1,1,1])] [(2, .string (sb s)), (13, v42)] w39 (by kernel_rfl) .nil ?_
        refine GoS.run [2, 65] [.n, .n, .n] _ [.inRegion (cops (csub (cd Try.f6) [1,1,1,1,1,1,1,0])) [1,2,3,4,5,6], .code (csub (cd Try.f6) [1,1,1,1,1,1,1,1])] [(2, .string (sb s)), (65, v42)] w39 (by kernel_rfl) .nil ?_
        refine GoS.call [2] 9 #[v42] (some 66) [.inRegion (cops (csub (cd Try.f6) [1,1,1,1,1,1,1,0])) [2,3,4,5,6], .code (csub (cd Try.f6) [1,1,1,1,1,1,1,1])] [(2, .string (sb s))] (by kernel_rfl) (encode_c v42 (decL s) w39 (hM41.rd 0 rfl) (by first | omega | (have q1 := encT_len l; have q2 := encT_len m; rw [List.length_append]; omega) | (have q3 := @decL_len s; omega))) ?_
        rintro _ w47 ⟨rfl, m48⟩
        refine ⟨_, rfl, ?_⟩
        have hM49 := Mem.join hM41 m48
        have o50 : (IntKind.i64 = IntKind.i64) ∧ w47 = w47 ∧ Value.bool true = .bool ((encE (decL s)) == 0) := ⟨rfl, rfl, congrArg Value.bool (Eq.symm (beq_iff_eq.2 (enc_dec h43).1))⟩
        have o51 : (binOp .eql 9 (.string (sb (encT (decL s)))) (.string (sb s))).run Try.prog w47 = .ok (.bool true) w47 := f_streq_yes ((enc_dec h43).2)
        have hM52 : Mem [] w w47 [] := hM49.sub (List.Sublist.cons _ (List.Sublist.refl _))
        refine GoS.run [6] [.n, .n, .n, .n, .n, .n, .n, .n, .n, .h (.bool true), .n, .n, .n, .h (.bool true), .n, .n, .n] _ [.code (csub (cd Try.f6) [1,1,1,1,1,1,1,1,1])] [(6, .bool true)] w47 (by kernel_rfl) (.cons o50 (.cons o51 .nil)) ?_
        refine GoS.ret (fn := Try.f6) (v := (.bool true)) Try.func6 (by kernel_rfl) ?_
        rw [hR]
        exact ⟨rfl, hM52.below⟩
    ·
      have h11p : ¬ ((encE m) = 0) := p_ne h11
      refine GoS.run [2] [.n] _ [.code (csub (cd Try.f6) [1,1,1,1,1])] [(2, .string (sb s))] w7 (by kernel_rfl) .nil ?_
      refine GoS.run [2, 55] [.n, .n, .n] _ [.inRegion (cops (csub (cd Try.f6) [1,1,1,1,1,0])) [1,2,3,4,5,6], .code (csub (cd Try.f6) [1,1,1,1,1,1])] [(2, .string (sb s)), (55, .string (sb s))] w7 (by kernel_rfl) .nil ?_
      refine GoS.call [2] 13 #[.string (sb s)] (some 56) [.inRegion (cops (csub (cd Try.f6) [1,1,1,1,1,0])) [2,3,4,5,6], .code (csub (cd Try.f6) [1,1,1,1,1,1])] [(2, .string (sb s))] (by kernel_rfl) (decode_c s (by first | omega | (have q1 := encT_len l; have q2 := encT_len m; rw [List.length_append]; omega) | (have q3 := @decL_len s; omega)) w7) ?_
      rintro _ w53 ⟨v56, rfl, m54⟩
      refine ⟨_, rfl, ?_⟩
      have hM55 := Mem.join hM9 m54
      refine GoS.run [2, 13, 60] [.n, .n, .n, .n, .n, .n, .n, .n, .n, .n, .n, .n] _ [.code (csub (cd Try.f6) [1,1,1,1,1,1,0,1]), .code (csub (cd Try.f6) [1,1,1,1,1,1,1])] [(2, .string (sb s)), (13, v56), (60, .bool ((decE s) != 0))] w53 (by kernel_rfl) .nil ?_
      refine GoS.cond ((decE s) != 0) [.code (csub (cd Try.f6) [1,1,1,1,1,1,0,1,0]), .code (csub (cd Try.f6) [1,1,1,1,1,1,1])] [.code (csub (cd Try.f6) [1,1,1,1,1,1,0,1,1]), .code (csub (cd Try.f6) [1,1,1,1,1,1,1])] (by kernel_rfl) (fun h57 => ?_) (fun h57 => ?_)
      ·
        have h57p : ¬ ((decE s) = 0) := bne_iff_ne.1 h57
        have o58 : (Builtin.len_ #[22] 3 #[v56]).run Try.prog w53 = .ok (.int .i64 (((List.length (decL s)) : Nat) : Int)) w53 := f_slen sT22 (hM55.rd 0 rfl) 3 _
        have o59 : (IntKind.i64 = IntKind.i64) ∧ w53 = w53 ∧ Value.bool true = .bool ((((List.length (decL s)) : Nat) : Int) == 0) := ⟨rfl, rfl, congrArg Value.bool (Eq.symm (by rw [dec_none h57]; rfl))⟩
        have hM60 : Mem [] w w53 [] := hM55.sub (List.Sublist.cons _ (List.Sublist.refl _))
        refine GoS.run [6] [.n, .n, .n, .h (.int .i64 (((List.length (decL s)) : Nat) : Int)), .h (.bool true), .n, .n] _ [.code (csub (cd Try.f6) [1,1,1,1,1,1,0,1,0,1]), .code (csub (cd Try.f6) [1,1,1,1,1,1,1])] [(6, .bool true)] w53 (by kernel_rfl) (.cons o58 (.cons o59 .nil)) ?_
        refine GoS.ret (fn := Try.f6) (v := (.bool true)) Try.func6 (by kernel_rfl) ?_
        rw [hR]
        exact ⟨rfl, hM60.below⟩
      ·
        have h57p : (decE s) = 0 := p_eq h57
        refine GoS.run [2, 13] [.n] _ [.code (csub (cd Try.f6) [1,1,1,1,1,1,1])] [(2, .string (sb s)), (13, v56)] w53 (by kernel_rfl) .nil ?_
        refine GoS.run [2, 65] [.n, .n, .n] _ [.inRegion (cops (csub (cd Try.f6) [1,1,1,1,1,1,1,0])) [1,2,3,4,5,6], .code (csub (cd Try.f6) [1,1,1,1,1,1,1,1])] [(2, .string (sb s)), (65, v56)] w53 (by kernel_rfl) .nil ?_
        refine GoS.call [2] 9 #[v56] (some 66) [.inRegion (cops (csub (cd Try.f6) [1,1,1,1,1,1,1,0])) [2,3,4,5,6], .code (csub (cd Try.f6) [1,1,1,1,1,1,1,1])] [(2, .string (sb s))] (by kernel_rfl) (encode_c v56 (decL s) w53 (hM55.rd 0 rfl) (by first | omega | (have q1 := encT_len l; have q2 := encT_len m; rw [List.length_append]; omega) | (have q3 := @decL_len s; omega))) ?_
        rintro _ w61 ⟨rfl, m62⟩
        refine ⟨_, rfl, ?_⟩
        have hM63 := Mem.join hM55 m62
        have o64 : (IntKind.i64 = IntKind.i64) ∧ w61 = w61 ∧ Value.bool true = .bool ((encE (decL s)) == 0) := ⟨rfl, rfl, congrArg Value.bool (Eq.symm (beq_iff_eq.2 (enc_dec h57).1))⟩
        have o65 : (binOp .eql 9 (.string (sb (encT (decL s)))) (.string (sb s))).run Try.prog w61 = .ok (.bool true) w61 := f_streq_yes ((enc_dec h57).2)
        have hM66 : Mem [] w w61 [] := hM63.sub (List.Sublist.cons _ (List.Sublist.refl _))
        refine GoS.run [6] [.n, .n, .n, .n, .n, .n, .n, .n, .n, .h (.bool true), .n, .n, .n, .h (.bool true), .n, .n, .n] _ [.code (csub (cd Try.f6) [1,1,1,1,1,1,1,1,1])] [(6, .bool true)] w61 (by kernel_rfl) (.cons o64 (.cons o65 .nil)) ?_
        refine GoS.ret (fn := Try.f6) (v := (.bool true)) Try.func6 (by kernel_rfl) ?_
        rw [hR]
        exact ⟨rfl, hM66.below⟩
  ·
    have h10p : ¬ ((encE l) = 0) := p_ne h10
    refine GoS.run [0, 1, 2, 7, 9, 34] [.n, .n, .n] _ [.inRegion (cops (csub (cd Try.f6) [1,1,1,1,0,0])) [], .code (csub (cd Try.f6) [1,1,1,1,0,1]), .code (csub (cd Try.f6) [1,1,1,1,1])] [(0, v), (1, u), (2, .string (sb s)), (7, .string (sb (encT l))), (9, .string (sb (encT m))), (34, .bool false)] w7 (by kernel_rfl) .nil ?_
    refine GoS.run [2, 55] [.n, .n, .n, .n, .n, .n] _ [.inRegion (cops (csub (cd Try.f6) [1,1,1,1,1,0])) [1,2,3,4,5,6], .code (csub (cd Try.f6) [1,1,1,1,1,1])] [(2, .string (sb s)), (55, .string (sb s))] w7 (by kernel_rfl) .nil ?_
    refine GoS.call [2] 13 #[.string (sb s)] (some 56) [.inRegion (cops (csub (cd Try.f6) [1,1,1,1,1,0])) [2,3,4,5,6], .code (csub (cd Try.f6) [1,1,1,1,1,1])] [(2, .string (sb s))] (by kernel_rfl) (decode_c s (by first | omega | (have q1 := encT_len l; have q2 := encT_len m; rw [List.length_append]; omega) | (have q3 := @decL_len s; omega)) w7) ?_
    rintro _ w67 ⟨v70, rfl, m68⟩
    refine ⟨_, rfl, ?_⟩
    have hM69 := Mem.join hM9 m68
    refine GoS.run [2, 13, 60] [.n, .n, .n, .n, .n, .n, .n, .n, .n, .n, .n, .n] _ [.code (csub (cd Try.f6) [1,1,1,1,1,1,0,1]), .code (csub (cd Try.f6) [1,1,1,1,1,1,1])] [(2, .string (sb s)), (13, v70), (60, .bool ((decE s) != 0))] w67 (by kernel_rfl) .nil ?_
    refine GoS.cond ((decE s) != 0) [.code (csub (cd Try.f6) [1,1,1,1,1,1,0,1,0]), .code (csub (cd Try.f6) [1,1,1,1,1,1,1])] [.code (csub (cd Try.f6) [1,1,1,1,1,1,0,1,1]), .code (csub (cd Try.f6) [1,1,1,1,1,1,1])] (by kernel_rfl) (fun h71 => ?_) (fun h71 => ?_)
    ·
      have h71p : ¬ ((decE s) = 0) := bne_iff_ne.1 h71
      have o72 : (Builtin.len_ #[22] 3 #[v70]).run Try.prog w67 = .ok (.int .i64 (((List.length (decL s)) : Nat) : Int)) w67 := f_slen sT22 (hM69.rd 0 rfl) 3 _
      have o73 : (IntKind.i64 = IntKind.i64) ∧ w67 = w67 ∧ Value.bool true = .bool ((((List.length (decL s)) : Nat) : Int) == 0) := ⟨rfl, rfl, congrArg Value.bool (Eq.symm (by rw [dec_none h71]; rfl))⟩
      have hM74 : Mem [] w w67 [] := hM69.sub (List.Sublist.cons _ (List.Sublist.refl _))
      refine GoS.run [6] [.n, .n, .n, .h (.int .i64 (((List.length (decL s)) : Nat) : Int)), .h (.bool true), .n, .n] _ [.code (csub (cd Try.f6) [1,1,1,1,1,1,0,1,0,1]), .code (csub (cd Try.f6) [1,1,1,1,1,1,1])] [(6, .bool true)] w67 (by kernel_rfl) (.cons o72 (.cons o73 .nil)) ?_
      refine GoS.ret (fn := Try.f6) (v := (.bool true)) Try.func6 (by kernel_rfl) ?_
      rw [hR]
      exact ⟨rfl, hM74.below⟩
    ·
      have h71p : (decE s) = 0 := p_eq h71
      refine GoS.run [2, 13] [.n] _ [.code (csub (cd Try.f6) [1,1,1,1,1,1,1])] [(2, .string (sb s)), (13, v70)] w67 (by kernel_rfl) .nil ?_
      refine GoS.run [2, 65] [.n, .n, .n] _ [.inRegion (cops (csub (cd Try.f6) [1,1,1,1,1,1,1,0])) [1,2,3,4,5,6], .code (csub (cd Try.f6) [1,1,1,1,1,1,1,1])] [(2, .string (sb s)), (65, v70)] w67 (by kernel_rfl) .nil ?_
      refine GoS.call [2] 9 #[v70] (some 66) [.inRegion (cops (csub (cd Try.f6) [1,1,1,1,1,1,1,0])) [2,3,4,5,6], .code (csub (cd Try.f6) [1,1,1,1,1,1,1,1])] [(2, .string (sb s))] (by kernel_rfl) (encode_c v70 (decL s) w67 (hM69.rd 0 rfl) (by first | omega | (have q1 := encT_len l; have q2 := encT_len m; rw [List.length_append]; omega) | (have q3 := @decL_len s; omega))) ?_
      rintro _ w75 ⟨rfl, m76⟩
      refine ⟨_, rfl, ?_⟩
      have hM77 := Mem.join hM69 m76
      have o78 : (IntKind.i64 = IntKind.i64) ∧ w75 = w75 ∧ Value.bool true = .bool ((encE (decL s)) == 0) := ⟨rfl, rfl, congrArg Value.bool (Eq.symm (beq_iff_eq.2 (enc_dec h71).1))⟩
      have o79 : (binOp .eql 9 (.string (sb (encT (decL s)))) (.string (sb s))).run Try.prog w75 = .ok (.bool true) w75 := f_streq_yes ((enc_dec h71).2)
      have hM80 : Mem [] w w75 [] := hM77.sub (List.Sublist.cons _ (List.Sublist.refl _))
      refine GoS.run [6] [.n, .n, .n, .n, .n, .n, .n, .n, .n, .h (.bool true), .n, .n, .n, .h (.bool true), .n, .n, .n] _ [.code (csub (cd Try.f6) [1,1,1,1,1,1,1,1,1])] [(6, .bool true)] w75 (by kernel_rfl) (.cons o78 (.cons o79 .nil)) ?_
      refine GoS.ret (fn := Try.f6) (v := (.bool true)) Try.func6 (by kernel_rfl) ?_
      rw [hR]
      exact ⟨rfl, hM80.below⟩


end Go.Proofs.Yteddiaonklkdiaa
