/-
  The walks of Open.
-/
import Derived.Test.YtfbcmggdleoojaaSealA
namespace Go.Proofs.Ytfbcmggdleoojaa
open Go Go.Gw Go.NumP Go.CrcP Go.SealP Go.RowKit
set_option linter.unusedVariables false
set_option linter.unusedSimpArgs false


set_option maxHeartbeats 2000000 in
theorem open_c (kind : Int) (b : List UInt8) (hs : b.length ≤ 9223372036854770000) (w : World) :
    Calls Try.prog 12 #[.int .i64 kind, .string (sb b)] w (fun e w' => e = .returned (.tuple #[.string (sb (openS kind b)), .int .i64 (openE kind b)]) ∧ Mem [] w w' []) := by
  have hdl : (List.drop 4 b).length = b.length - 4 := List.length_drop ..
  obtain ⟨R, hR⟩ : ∃ R : Ending → World → Prop, R = (fun e w' => e = .returned (.tuple #[.string (sb (openS kind b)), .int .i64 (openE kind b)]) ∧ Mem [] w w' []) := ⟨_, rfl⟩
  rw [← hR]
  refine GoS.enter (n := 79) Try.func12 (by kernel_rfl) rfl [(0, .int .i64 kind), (1, .string (sb b))] (by kernel_rfl) (by kernel_rfl) ?_
  have hM0 := Mem.start w
  refine GoS.run [0, 1, 15] [.n, .n, .n, .n, .n, .n, .n, .n, .n, .n, .n] _ [.inRegion (cops (csub (cd Try.f12) [1,0,0])) [3,4,5], .code (csub (cd Try.f12) [1,0,1]), .code (csub (cd Try.f12) [1,1])] [(0, .int .i64 kind), (1, .string (sb b)), (15, .bool (decide (kind < 0)))] w (by kernel_rfl) .nil ?_
  refine GoS.fork 15 (decide (kind < 0)) (by kernel_rfl) (fun h1 => ?_) (fun h1 => ?_)
  ·
    have h1p : kind < 0 := of_decide_eq_true h1
    refine GoS.run [0, 1, 18] [.n, .n, .n] _ [.inRegion (cops (csub (cd Try.f12) [1,0,0])) [], .code (csub (cd Try.f12) [1,0,1]), .code (csub (cd Try.f12) [1,1])] [(0, .int .i64 kind), (1, .string (sb b)), (18, .bool true)] w (by kernel_rfl) .nil ?_
    refine GoS.run [4, 5] [.n, .n, .n, .n, .n, .n, .n] _ [.code (csub (cd Try.f12) [1,0,1,0,1]), .code (csub (cd Try.f12) [1,1])] [(4, .string (sb ([]))), (5, .int .i64 1)] w (by kernel_rfl) .nil ?_
    refine GoS.ret (fn := Try.f12) (v := (.tuple #[.string (sb ([])), .int .i64 1])) Try.func12 (by kernel_rfl) ?_
    rw [hR]
    have hk : ¬ isKind kind := fun z => by have := z.1; have := z.2; omega
    obtain ⟨e1, e2⟩ := open_err (open1 (b := b) hk) (by decide)
    exact ⟨ret_str2 e1.symm e2.symm, hM0⟩
  ·
    have h1p : ¬ (kind < 0) := of_decide_eq_false h1
    refine GoS.run [0, 1, 18] [.n, .n, .n] _ [.inRegion (cops (csub (cd Try.f12) [1,0,0])) [], .code (csub (cd Try.f12) [1,0,1]), .code (csub (cd Try.f12) [1,1])] [(0, .int .i64 kind), (1, .string (sb b)), (18, .bool (decide (kind > 255)))] w (by kernel_rfl) .nil ?_
    refine GoS.run [0, 1, 18] [.n] _ [.code (csub (cd Try.f12) [1,0,1]), .code (csub (cd Try.f12) [1,1])] [(0, .int .i64 kind), (1, .string (sb b)), (18, .bool (decide (kind > 255)))] w (by kernel_rfl) .nil ?_
    refine GoS.cond (decide (kind > 255)) [.code (csub (cd Try.f12) [1,0,1,0]), .code (csub (cd Try.f12) [1,1])] [.code (csub (cd Try.f12) [1,0,1,1]), .code (csub (cd Try.f12) [1,1])] (by kernel_rfl) (fun h2 => ?_) (fun h2 => ?_)
    ·
      have h2p : kind > 255 := of_decide_eq_true h2
      refine GoS.run [4, 5] [.n, .n, .n, .n, .n] _ [.code (csub (cd Try.f12) [1,0,1,0,1]), .code (csub (cd Try.f12) [1,1])] [(4, .string (sb ([]))), (5, .int .i64 1)] w (by kernel_rfl) .nil ?_
      refine GoS.ret (fn := Try.f12) (v := (.tuple #[.string (sb ([])), .int .i64 1])) Try.func12 (by kernel_rfl) ?_
      rw [hR]
      have hk : ¬ isKind kind := fun z => by have := z.1; have := z.2; omega
      obtain ⟨e1, e2⟩ := open_err (open1 (b := b) hk) (by decide)
      exact ⟨ret_str2 e1.symm e2.symm, hM0⟩
    ·
      have h2p : ¬ (kind > 255) := of_decide_eq_false h2
      refine GoS.run [0, 1] [.n] _ [.code (csub (cd Try.f12) [1,1])] [(0, .int .i64 kind), (1, .string (sb b))] w (by kernel_rfl) .nil ?_
      have o3 : (Builtin.len_ #[9] 3 #[.string (sb b)]).run Try.prog w = .ok (.int .i64 ((b.length : Nat) : Int)) w := f_len (by kernel_rfl)
      refine GoS.run [0, 1, 6, 19, 25] [.n, .n, .n, .n, .n, .n, .n, .n, .n, .n, .n, .n, .n, .n, .n, .n, .n, .n, .n, .n, .n, .n, .n, .n, .n, .n, .h (.int .i64 ((b.length : Nat) : Int)), .n, .n] _ [.code (csub (cd Try.f12) [1,1,0,1,0,0,1,1,0,0,1,0,1]), .code (csub (cd Try.f12) [1,1,0,1,0,0,1,1,0,0,1,1]), .inBlock 1, .code (csub (cd Try.f12) [1,1,0,1,0,0,1,1,1]), .inLoop (csub (cd Try.f12) [1,1,0,1,0,0]), .inBlock 0, .code (csub (cd Try.f12) [1,1,1])] [(0, .int .i64 kind), (1, .string (sb b)), (6, .int .i64 0), (19, .int .i64 0), (25, .bool (decide (0 ≥ ((b.length : Nat) : Int))))] w (by kernel_rfl) (.cons o3 .nil) ?_
      refine GoS.cond (decide (0 ≥ ((b.length : Nat) : Int))) [.code (csub (cd Try.f12) [1,1,0,1,0,0,1,1,0,0,1,0,1,0]), .code (csub (cd Try.f12) [1,1,0,1,0,0,1,1,0,0,1,1]), .inBlock 1, .code (csub (cd Try.f12) [1,1,0,1,0,0,1,1,1]), .inLoop (csub (cd Try.f12) [1,1,0,1,0,0]), .inBlock 0, .code (csub (cd Try.f12) [1,1,1])] [.code (csub (cd Try.f12) [1,1,0,1,0,0,1,1,0,0,1,0,1,1]), .code (csub (cd Try.f12) [1,1,0,1,0,0,1,1,0,0,1,1]), .inBlock 1, .code (csub (cd Try.f12) [1,1,0,1,0,0,1,1,1]), .inLoop (csub (cd Try.f12) [1,1,0,1,0,0]), .inBlock 0, .code (csub (cd Try.f12) [1,1,1])] (by kernel_rfl) (fun h4 => ?_) (fun h4 => ?_)
      ·
        have h4p : 0 ≥ ((b.length : Nat) : Int) := of_decide_eq_true h4
        refine GoS.run [4, 5] [.n, .n, .n, .n, .n] _ [.code (csub (cd Try.f12) [1,1,0,1,0,0,1,1,0,0,1,0,1,0,1]), .code (csub (cd Try.f12) [1,1,0,1,0,0,1,1,0,0,1,1]), .inBlock 1, .code (csub (cd Try.f12) [1,1,0,1,0,0,1,1,1]), .inLoop (csub (cd Try.f12) [1,1,0,1,0,0]), .inBlock 0, .code (csub (cd Try.f12) [1,1,1])] [(4, .string (sb ([]))), (5, .int .i64 2)] w (by kernel_rfl) .nil ?_
        refine GoS.ret (fn := Try.f12) (v := (.tuple #[.string (sb ([])), .int .i64 2])) Try.func12 (by kernel_rfl) ?_
        rw [hR]
        have hk : isKind kind := ⟨by omega, by omega⟩
        have hh : headE (wantP kind) b = 2 := head_short (k := 0) upto0 (by simp [wantP]) (by omega)
        obtain ⟨e1, e2⟩ := open_err (openH hk hh (by decide)) (by decide)
        exact ⟨ret_str2 e1.symm e2.symm, hM0⟩
      ·
        have h4p : ¬ (0 ≥ ((b.length : Nat) : Int)) := of_decide_eq_false h4
        refine GoS.run [0, 1, 6, 19] [.n] _ [.code (csub (cd Try.f12) [1,1,0,1,0,0,1,1,0,0,1,1]), .inBlock 1, .code (csub (cd Try.f12) [1,1,0,1,0,0,1,1,1]), .inLoop (csub (cd Try.f12) [1,1,0,1,0,0]), .inBlock 0, .code (csub (cd Try.f12) [1,1,1])] [(0, .int .i64 kind), (1, .string (sb b)), (6, .int .i64 0), (19, .int .i64 0)] w (by kernel_rfl) .nil ?_
        refine GoS.run [0, 1, 6, 19] [.n] _ [.code (csub (cd Try.f12) [1,1,0,1,0,0,1,1,0,0,1,1,0]), .code (csub (cd Try.f12) [1,1,0,1,0,0,1,1,0,0,1,1,1]), .inBlock 1, .code (csub (cd Try.f12) [1,1,0,1,0,0,1,1,1]), .inLoop (csub (cd Try.f12) [1,1,0,1,0,0]), .inBlock 0, .code (csub (cd Try.f12) [1,1,1])] [(0, .int .i64 kind), (1, .string (sb b)), (6, .int .i64 0), (19, .int .i64 0)] w (by kernel_rfl) .nil ?_
        rcases Bool.eq_false_or_eq_true ((bl b 0) != 103) with h6 | h6
        ·
          have h6p : ¬ ((bl b 0) = 103) := bne_iff_ne.1 h6
          have hb7 := bl_bd b 0
          refine GoS.drawC (fun W_ => Kept [] w W_) 8 (by kernel_rfl) [0, 1, 19, 47] [.u (.int .i64 0) w, .u (.bool true) w, .u (.bool true) w, .u (.string (sb b)) w, .u (.int .i64 0) w, .h (.int .u8 (bl b 0)), .u (.int .i64 0) w, .u (.int .u8 103) w, .u (.bool true) w, .u (.bool true) w, .u (.bool true) w, .u (.bool true) w] (fun W_ => [(Instr.index 9 (.string (sb b)) (.int .i64 0)).run Try.prog W_ = .ok (.int .u8 (bl b 0)) W_]) [(.int .i64 0, .int .i64 0), (.bool true, .bool true), (.bool true, .bool true), (.string (sb b), .string (sb b)), (.int .i64 0, .int .i64 0), (.int .i64 0, .int .i64 0), (.int .u8 103, .int .u8 103), (.bool ((bl b 0) != 103), .bool true), (.bool true, .bool true), (.bool true, .bool true), (.bool true, .bool true)] [(0, .int .i64 kind), (1, .string (sb b)), (19, .int .i64 0), (47, .bool true)] (by kernel_rfl) (by kernel_rfl) ([(47, .bool true), (46, undef), (45, undef), (44, undef), (43, undef), (42, undef), (41, undef), (40, undef), (39, undef), (38, undef), (37, undef), (36, .bool true), (35, .bool true), (34, .bool true), (33, .int .u8 103), (32, .int .i64 0), (31, .int .u8 (bl b 0)), (30, .int .i64 0), (29, .string (sb b)), (28, .bool true), (27, .bool true), (26, .int .i64 0)] ++ [(0, .int .i64 kind), (1, .string (sb b)), (6, .int .i64 0), (19, .int .i64 0)]) (fun W_ => by kernel_rfl) (by kernel_rfl) (.cons rfl (.cons rfl (.cons rfl (.cons rfl (.cons rfl (.cons rfl (.cons rfl (.cons (congrArg Value.bool h6) (.cons rfl (.cons rfl (.cons rfl Obs.nil))))))))))) (Kept.drewN _ _ 1) (fun W_ hW_ => (.cons (f_index 0 (by kernel_rfl) (by omega) (by first | omega | (simp [bytesOf_len']; done) | (simp [bytesOf_len'] <;> omega))) Obs.nil)) (fun w8 hw9 => ?_)
          have hM10 := hM0.ext hw9
          refine GoS.run [4, 5] [.n, .n, .n, .n, .n, .n] _ [.code (csub (cd Try.f12) [1,1,0,1,0,0,1,1,0,0,1,1,1,0,1]), .inBlock 1, .code (csub (cd Try.f12) [1,1,0,1,0,0,1,1,1]), .inLoop (csub (cd Try.f12) [1,1,0,1,0,0]), .inBlock 0, .code (csub (cd Try.f12) [1,1,1])] [(4, .string (sb ([]))), (5, .int .i64 3)] w8 (by kernel_rfl) .nil ?_
          refine GoS.ret (fn := Try.f12) (v := (.tuple #[.string (sb ([])), .int .i64 3])) Try.func12 (by kernel_rfl) ?_
          rw [hR]
          have hk : isKind kind := ⟨by omega, by omega⟩
          have hh : headE (wantP kind) b = 3 := head_form (k := 0) upto0 (by simp [wantP]) (by omega) (fun z => by have := bl_of_u8 (n := 103) (by first | decide | omega) z; omega)
          obtain ⟨e1, e2⟩ := open_err (openH hk hh (by decide)) (by decide)
          exact ⟨ret_str2 e1.symm e2.symm, hM10⟩
        ·
          have h6p : (bl b 0) = 103 := p_eq h6
          have hb11 := bl_bd b 0
          refine GoS.drawC (fun W_ => Kept [] w W_) 8 (by kernel_rfl) [0, 1, 19, 47] [.u (.int .i64 0) w, .u (.bool true) w, .u (.bool true) w, .u (.string (sb b)) w, .u (.int .i64 0) w, .h (.int .u8 (bl b 0)), .u (.int .i64 0) w, .u (.int .u8 103) w, .u (.bool false) w, .u (.bool false) w, .u (.bool false) w, .u (.int .i64 0) w, .u (.bool false) w, .u (.bool false) w, .u (.bool false) w, .u (.bool false) w] (fun W_ => [(Instr.index 9 (.string (sb b)) (.int .i64 0)).run Try.prog W_ = .ok (.int .u8 (bl b 0)) W_]) [(.int .i64 0, .int .i64 0), (.bool true, .bool true), (.bool true, .bool true), (.string (sb b), .string (sb b)), (.int .i64 0, .int .i64 0), (.int .i64 0, .int .i64 0), (.int .u8 103, .int .u8 103), (.bool ((bl b 0) != 103), .bool false), (.bool false, .bool false), (.bool false, .bool false), (.int .i64 0, .int .i64 0), (.bool false, .bool false), (.bool false, .bool false), (.bool false, .bool false), (.bool false, .bool false)] [(0, .int .i64 kind), (1, .string (sb b)), (19, .int .i64 0), (47, .bool false)] (by kernel_rfl) (by kernel_rfl) ([(47, .bool false), (46, .bool false), (45, undef), (44, undef), (43, undef), (42, undef), (41, undef), (40, undef), (39, .bool false), (38, .bool false), (37, .int .i64 0), (36, .bool false), (35, .bool false), (34, .bool false), (33, .int .u8 103), (32, .int .i64 0), (31, .int .u8 (bl b 0)), (30, .int .i64 0), (29, .string (sb b)), (28, .bool true), (27, .bool true), (26, .int .i64 0)] ++ [(0, .int .i64 kind), (1, .string (sb b)), (6, .int .i64 0), (19, .int .i64 0)]) (fun W_ => by kernel_rfl) (by kernel_rfl) (.cons rfl (.cons rfl (.cons rfl (.cons rfl (.cons rfl (.cons rfl (.cons rfl (.cons (congrArg Value.bool h6) (.cons rfl (.cons rfl (.cons rfl (.cons rfl (.cons rfl (.cons rfl (.cons rfl Obs.nil))))))))))))))) (Kept.drewN _ _ 1) (fun W_ hW_ => (.cons (f_index 0 (by kernel_rfl) (by omega) (by first | omega | (simp [bytesOf_len']; done) | (simp [bytesOf_len'] <;> omega))) Obs.nil)) (fun w12 hw13 => ?_)
          have hM14 := hM0.ext hw13
          have o15 : (Builtin.len_ #[9] 3 #[.string (sb b)]).run Try.prog w12 = .ok (.int .i64 ((b.length : Nat) : Int)) w12 := f_len (by kernel_rfl)
          refine GoS.run [0, 1, 6, 19, 25] [.n, .n, .n, .n, .n, .n, .n, .n, .n, .n, .n, .n, .n, .n, .n, .n, .n, .n, .n, .n, .n, .n, .n, .n, .n, .n, .n, .h (.int .i64 ((b.length : Nat) : Int)), .n, .n] _ [.code (csub (cd Try.f12) [1,1,0,1,0,0,1,1,0,0,1,0,1]), .code (csub (cd Try.f12) [1,1,0,1,0,0,1,1,0,0,1,1]), .inBlock 1, .code (csub (cd Try.f12) [1,1,0,1,0,0,1,1,1]), .inLoop (csub (cd Try.f12) [1,1,0,1,0,0]), .inBlock 0, .code (csub (cd Try.f12) [1,1,1])] [(0, .int .i64 kind), (1, .string (sb b)), (6, .int .i64 1), (19, .int .i64 1), (25, .bool (decide (1 ≥ ((b.length : Nat) : Int))))] w12 (by kernel_rfl) (.cons o15 .nil) ?_
          refine GoS.cond (decide (1 ≥ ((b.length : Nat) : Int))) [.code (csub (cd Try.f12) [1,1,0,1,0,0,1,1,0,0,1,0,1,0]), .code (csub (cd Try.f12) [1,1,0,1,0,0,1,1,0,0,1,1]), .inBlock 1, .code (csub (cd Try.f12) [1,1,0,1,0,0,1,1,1]), .inLoop (csub (cd Try.f12) [1,1,0,1,0,0]), .inBlock 0, .code (csub (cd Try.f12) [1,1,1])] [.code (csub (cd Try.f12) [1,1,0,1,0,0,1,1,0,0,1,0,1,1]), .code (csub (cd Try.f12) [1,1,0,1,0,0,1,1,0,0,1,1]), .inBlock 1, .code (csub (cd Try.f12) [1,1,0,1,0,0,1,1,1]), .inLoop (csub (cd Try.f12) [1,1,0,1,0,0]), .inBlock 0, .code (csub (cd Try.f12) [1,1,1])] (by kernel_rfl) (fun h16 => ?_) (fun h16 => ?_)
          ·
            have h16p : 1 ≥ ((b.length : Nat) : Int) := of_decide_eq_true h16
            refine GoS.run [4, 5] [.n, .n, .n, .n, .n] _ [.code (csub (cd Try.f12) [1,1,0,1,0,0,1,1,0,0,1,0,1,0,1]), .code (csub (cd Try.f12) [1,1,0,1,0,0,1,1,0,0,1,1]), .inBlock 1, .code (csub (cd Try.f12) [1,1,0,1,0,0,1,1,1]), .inLoop (csub (cd Try.f12) [1,1,0,1,0,0]), .inBlock 0, .code (csub (cd Try.f12) [1,1,1])] [(4, .string (sb ([]))), (5, .int .i64 2)] w12 (by kernel_rfl) .nil ?_
            refine GoS.ret (fn := Try.f12) (v := (.tuple #[.string (sb ([])), .int .i64 2])) Try.func12 (by kernel_rfl) ?_
            rw [hR]
            have hk : isKind kind := ⟨by omega, by omega⟩
            have hh : headE (wantP kind) b = 2 := head_short (k := 1) (upto_succ upto0 (u8_of_bl (n := 103) (by first | decide | omega) (by omega))) (by simp [wantP]) (by omega)
            obtain ⟨e1, e2⟩ := open_err (openH hk hh (by decide)) (by decide)
            exact ⟨ret_str2 e1.symm e2.symm, hM14⟩
          ·
            have h16p : ¬ (1 ≥ ((b.length : Nat) : Int)) := of_decide_eq_false h16
            refine GoS.run [0, 1, 6, 19] [.n] _ [.code (csub (cd Try.f12) [1,1,0,1,0,0,1,1,0,0,1,1]), .inBlock 1, .code (csub (cd Try.f12) [1,1,0,1,0,0,1,1,1]), .inLoop (csub (cd Try.f12) [1,1,0,1,0,0]), .inBlock 0, .code (csub (cd Try.f12) [1,1,1])] [(0, .int .i64 kind), (1, .string (sb b)), (6, .int .i64 1), (19, .int .i64 1)] w12 (by kernel_rfl) .nil ?_
            refine GoS.run [0, 1, 6, 19] [.n] _ [.code (csub (cd Try.f12) [1,1,0,1,0,0,1,1,0,0,1,1,0]), .code (csub (cd Try.f12) [1,1,0,1,0,0,1,1,0,0,1,1,1]), .inBlock 1, .code (csub (cd Try.f12) [1,1,0,1,0,0,1,1,1]), .inLoop (csub (cd Try.f12) [1,1,0,1,0,0]), .inBlock 0, .code (csub (cd Try.f12) [1,1,1])] [(0, .int .i64 kind), (1, .string (sb b)), (6, .int .i64 1), (19, .int .i64 1)] w12 (by kernel_rfl) .nil ?_
            rcases Bool.eq_false_or_eq_true ((bl b 1) != 108) with h18 | h18
            ·
              have h18p : ¬ ((bl b 1) = 108) := bne_iff_ne.1 h18
              have hb19 := bl_bd b 1
              refine GoS.drawC (fun W_ => Kept [] w12 W_) 8 (by kernel_rfl) [0, 1, 19, 47] [.u (.int .i64 1) w12, .u (.bool true) w12, .u (.bool true) w12, .u (.string (sb b)) w12, .u (.int .i64 1) w12, .h (.int .u8 (bl b 1)), .u (.int .i64 1) w12, .u (.int .u8 108) w12, .u (.bool true) w12, .u (.bool true) w12, .u (.bool true) w12, .u (.bool true) w12] (fun W_ => [(Instr.index 9 (.string (sb b)) (.int .i64 1)).run Try.prog W_ = .ok (.int .u8 (bl b 1)) W_]) [(.int .i64 1, .int .i64 1), (.bool true, .bool true), (.bool true, .bool true), (.string (sb b), .string (sb b)), (.int .i64 1, .int .i64 1), (.int .i64 1, .int .i64 1), (.int .u8 108, .int .u8 108), (.bool ((bl b 1) != 108), .bool true), (.bool true, .bool true), (.bool true, .bool true), (.bool true, .bool true)] [(0, .int .i64 kind), (1, .string (sb b)), (19, .int .i64 1), (47, .bool true)] (by kernel_rfl) (by kernel_rfl) ([(47, .bool true), (46, undef), (45, undef), (44, undef), (43, undef), (42, undef), (41, undef), (40, undef), (39, undef), (38, undef), (37, undef), (36, .bool true), (35, .bool true), (34, .bool true), (33, .int .u8 108), (32, .int .i64 1), (31, .int .u8 (bl b 1)), (30, .int .i64 1), (29, .string (sb b)), (28, .bool true), (27, .bool true), (26, .int .i64 1)] ++ [(0, .int .i64 kind), (1, .string (sb b)), (6, .int .i64 1), (19, .int .i64 1)]) (fun W_ => by kernel_rfl) (by kernel_rfl) (.cons rfl (.cons rfl (.cons rfl (.cons rfl (.cons rfl (.cons rfl (.cons rfl (.cons (congrArg Value.bool h18) (.cons rfl (.cons rfl (.cons rfl Obs.nil))))))))))) (Kept.drewN _ _ 1) (fun W_ hW_ => (.cons (f_index 1 (by kernel_rfl) (by omega) (by first | omega | (simp [bytesOf_len']; done) | (simp [bytesOf_len'] <;> omega))) Obs.nil)) (fun w20 hw21 => ?_)
              have hM22 := hM14.ext hw21
              refine GoS.run [4, 5] [.n, .n, .n, .n, .n, .n] _ [.code (csub (cd Try.f12) [1,1,0,1,0,0,1,1,0,0,1,1,1,0,1]), .inBlock 1, .code (csub (cd Try.f12) [1,1,0,1,0,0,1,1,1]), .inLoop (csub (cd Try.f12) [1,1,0,1,0,0]), .inBlock 0, .code (csub (cd Try.f12) [1,1,1])] [(4, .string (sb ([]))), (5, .int .i64 3)] w20 (by kernel_rfl) .nil ?_
              refine GoS.ret (fn := Try.f12) (v := (.tuple #[.string (sb ([])), .int .i64 3])) Try.func12 (by kernel_rfl) ?_
              rw [hR]
              have hk : isKind kind := ⟨by omega, by omega⟩
              have hh : headE (wantP kind) b = 3 := head_form (k := 1) (upto_succ upto0 (u8_of_bl (n := 103) (by first | decide | omega) (by omega))) (by simp [wantP]) (by omega) (fun z => by have := bl_of_u8 (n := 108) (by first | decide | omega) z; omega)
              obtain ⟨e1, e2⟩ := open_err (openH hk hh (by decide)) (by decide)
              exact ⟨ret_str2 e1.symm e2.symm, hM22⟩
            ·
              have h18p : (bl b 1) = 108 := p_eq h18
              have hb23 := bl_bd b 1
              refine GoS.drawC (fun W_ => Kept [] w12 W_) 8 (by kernel_rfl) [0, 1, 19, 47] [.u (.int .i64 1) w12, .u (.bool true) w12, .u (.bool true) w12, .u (.string (sb b)) w12, .u (.int .i64 1) w12, .h (.int .u8 (bl b 1)), .u (.int .i64 1) w12, .u (.int .u8 108) w12, .u (.bool false) w12, .u (.bool false) w12, .u (.bool false) w12, .u (.int .i64 1) w12, .u (.bool false) w12, .u (.bool false) w12, .u (.bool false) w12, .u (.bool false) w12] (fun W_ => [(Instr.index 9 (.string (sb b)) (.int .i64 1)).run Try.prog W_ = .ok (.int .u8 (bl b 1)) W_]) [(.int .i64 1, .int .i64 1), (.bool true, .bool true), (.bool true, .bool true), (.string (sb b), .string (sb b)), (.int .i64 1, .int .i64 1), (.int .i64 1, .int .i64 1), (.int .u8 108, .int .u8 108), (.bool ((bl b 1) != 108), .bool false), (.bool false, .bool false), (.bool false, .bool false), (.int .i64 1, .int .i64 1), (.bool false, .bool false), (.bool false, .bool false), (.bool false, .bool false), (.bool false, .bool false)] [(0, .int .i64 kind), (1, .string (sb b)), (19, .int .i64 1), (47, .bool false)] (by kernel_rfl) (by kernel_rfl) ([(47, .bool false), (46, .bool false), (45, undef), (44, undef), (43, undef), (42, undef), (41, undef), (40, undef), (39, .bool false), (38, .bool false), (37, .int .i64 1), (36, .bool false), (35, .bool false), (34, .bool false), (33, .int .u8 108), (32, .int .i64 1), (31, .int .u8 (bl b 1)), (30, .int .i64 1), (29, .string (sb b)), (28, .bool true), (27, .bool true), (26, .int .i64 1)] ++ [(0, .int .i64 kind), (1, .string (sb b)), (6, .int .i64 1), (19, .int .i64 1)]) (fun W_ => by kernel_rfl) (by kernel_rfl) (.cons rfl (.cons rfl (.cons rfl (.cons rfl (.cons rfl (.cons rfl (.cons rfl (.cons (congrArg Value.bool h18) (.cons rfl (.cons rfl (.cons rfl (.cons rfl (.cons rfl (.cons rfl (.cons rfl Obs.nil))))))))))))))) (Kept.drewN _ _ 1) (fun W_ hW_ => (.cons (f_index 1 (by kernel_rfl) (by omega) (by first | omega | (simp [bytesOf_len']; done) | (simp [bytesOf_len'] <;> omega))) Obs.nil)) (fun w24 hw25 => ?_)
              have hM26 := hM14.ext hw25
              have o27 : (Builtin.len_ #[9] 3 #[.string (sb b)]).run Try.prog w24 = .ok (.int .i64 ((b.length : Nat) : Int)) w24 := f_len (by kernel_rfl)
              refine GoS.run [0, 1, 6, 19, 25] [.n, .n, .n, .n, .n, .n, .n, .n, .n, .n, .n, .n, .n, .n, .n, .n, .n, .n, .n, .n, .n, .n, .n, .n, .n, .n, .n, .h (.int .i64 ((b.length : Nat) : Int)), .n, .n] _ [.code (csub (cd Try.f12) [1,1,0,1,0,0,1,1,0,0,1,0,1]), .code (csub (cd Try.f12) [1,1,0,1,0,0,1,1,0,0,1,1]), .inBlock 1, .code (csub (cd Try.f12) [1,1,0,1,0,0,1,1,1]), .inLoop (csub (cd Try.f12) [1,1,0,1,0,0]), .inBlock 0, .code (csub (cd Try.f12) [1,1,1])] [(0, .int .i64 kind), (1, .string (sb b)), (6, .int .i64 2), (19, .int .i64 2), (25, .bool (decide (2 ≥ ((b.length : Nat) : Int))))] w24 (by kernel_rfl) (.cons o27 .nil) ?_
              refine GoS.cond (decide (2 ≥ ((b.length : Nat) : Int))) [.code (csub (cd Try.f12) [1,1,0,1,0,0,1,1,0,0,1,0,1,0]), .code (csub (cd Try.f12) [1,1,0,1,0,0,1,1,0,0,1,1]), .inBlock 1, .code (csub (cd Try.f12) [1,1,0,1,0,0,1,1,1]), .inLoop (csub (cd Try.f12) [1,1,0,1,0,0]), .inBlock 0, .code (csub (cd Try.f12) [1,1,1])] [.code (csub (cd Try.f12) [1,1,0,1,0,0,1,1,0,0,1,0,1,1]), .code (csub (cd Try.f12) [1,1,0,1,0,0,1,1,0,0,1,1]), .inBlock 1, .code (csub (cd Try.f12) [1,1,0,1,0,0,1,1,1]), .inLoop (csub (cd Try.f12) [1,1,0,1,0,0]), .inBlock 0, .code (csub (cd Try.f12) [1,1,1])] (by kernel_rfl) (fun h28 => ?_) (fun h28 => ?_)
              ·
                have h28p : 2 ≥ ((b.length : Nat) : Int) := of_decide_eq_true h28
                refine GoS.run [4, 5] [.n, .n, .n, .n, .n] _ [.code (csub (cd Try.f12) [1,1,0,1,0,0,1,1,0,0,1,0,1,0,1]), .code (csub (cd Try.f12) [1,1,0,1,0,0,1,1,0,0,1,1]), .inBlock 1, .code (csub (cd Try.f12) [1,1,0,1,0,0,1,1,1]), .inLoop (csub (cd Try.f12) [1,1,0,1,0,0]), .inBlock 0, .code (csub (cd Try.f12) [1,1,1])] [(4, .string (sb ([]))), (5, .int .i64 2)] w24 (by kernel_rfl) .nil ?_
                refine GoS.ret (fn := Try.f12) (v := (.tuple #[.string (sb ([])), .int .i64 2])) Try.func12 (by kernel_rfl) ?_
                rw [hR]
                have hk : isKind kind := ⟨by omega, by omega⟩
                have hh : headE (wantP kind) b = 2 := head_short (k := 2) (upto_succ (upto_succ upto0 (u8_of_bl (n := 103) (by first | decide | omega) (by omega))) (u8_of_bl (n := 108) (by first | decide | omega) (by omega))) (by simp [wantP]) (by omega)
                obtain ⟨e1, e2⟩ := open_err (openH hk hh (by decide)) (by decide)
                exact ⟨ret_str2 e1.symm e2.symm, hM26⟩
              ·
                have h28p : ¬ (2 ≥ ((b.length : Nat) : Int)) := of_decide_eq_false h28
                refine GoS.run [0, 1, 6, 19] [.n] _ [.code (csub (cd Try.f12) [1,1,0,1,0,0,1,1,0,0,1,1]), .inBlock 1, .code (csub (cd Try.f12) [1,1,0,1,0,0,1,1,1]), .inLoop (csub (cd Try.f12) [1,1,0,1,0,0]), .inBlock 0, .code (csub (cd Try.f12) [1,1,1])] [(0, .int .i64 kind), (1, .string (sb b)), (6, .int .i64 2), (19, .int .i64 2)] w24 (by kernel_rfl) .nil ?_
                refine GoS.run [0, 1, 6, 19] [.n] _ [.code (csub (cd Try.f12) [1,1,0,1,0,0,1,1,0,0,1,1,0]), .code (csub (cd Try.f12) [1,1,0,1,0,0,1,1,0,0,1,1,1]), .inBlock 1, .code (csub (cd Try.f12) [1,1,0,1,0,0,1,1,1]), .inLoop (csub (cd Try.f12) [1,1,0,1,0,0]), .inBlock 0, .code (csub (cd Try.f12) [1,1,1])] [(0, .int .i64 kind), (1, .string (sb b)), (6, .int .i64 2), (19, .int .i64 2)] w24 (by kernel_rfl) .nil ?_
                rcases Bool.eq_false_or_eq_true ((bl b 2) != 115) with h30 | h30
                ·
                  have h30p : ¬ ((bl b 2) = 115) := bne_iff_ne.1 h30
                  have hb31 := bl_bd b 2
                  refine GoS.drawC (fun W_ => Kept [] w24 W_) 8 (by kernel_rfl) [0, 1, 19, 47] [.u (.int .i64 2) w24, .u (.bool true) w24, .u (.bool true) w24, .u (.string (sb b)) w24, .u (.int .i64 2) w24, .h (.int .u8 (bl b 2)), .u (.int .i64 2) w24, .u (.int .u8 115) w24, .u (.bool true) w24, .u (.bool true) w24, .u (.bool true) w24, .u (.bool true) w24] (fun W_ => [(Instr.index 9 (.string (sb b)) (.int .i64 2)).run Try.prog W_ = .ok (.int .u8 (bl b 2)) W_]) [(.int .i64 2, .int .i64 2), (.bool true, .bool true), (.bool true, .bool true), (.string (sb b), .string (sb b)), (.int .i64 2, .int .i64 2), (.int .i64 2, .int .i64 2), (.int .u8 115, .int .u8 115), (.bool ((bl b 2) != 115), .bool true), (.bool true, .bool true), (.bool true, .bool true), (.bool true, .bool true)] [(0, .int .i64 kind), (1, .string (sb b)), (19, .int .i64 2), (47, .bool true)] (by kernel_rfl) (by kernel_rfl) ([(47, .bool true), (46, undef), (45, undef), (44, undef), (43, undef), (42, undef), (41, undef), (40, undef), (39, undef), (38, undef), (37, undef), (36, .bool true), (35, .bool true), (34, .bool true), (33, .int .u8 115), (32, .int .i64 2), (31, .int .u8 (bl b 2)), (30, .int .i64 2), (29, .string (sb b)), (28, .bool true), (27, .bool true), (26, .int .i64 2)] ++ [(0, .int .i64 kind), (1, .string (sb b)), (6, .int .i64 2), (19, .int .i64 2)]) (fun W_ => by kernel_rfl) (by kernel_rfl) (.cons rfl (.cons rfl (.cons rfl (.cons rfl (.cons rfl (.cons rfl (.cons rfl (.cons (congrArg Value.bool h30) (.cons rfl (.cons rfl (.cons rfl Obs.nil))))))))))) (Kept.drewN _ _ 1) (fun W_ hW_ => (.cons (f_index 2 (by kernel_rfl) (by omega) (by first | omega | (simp [bytesOf_len']; done) | (simp [bytesOf_len'] <;> omega))) Obs.nil)) (fun w32 hw33 => ?_)
                  have hM34 := hM26.ext hw33
                  refine GoS.run [4, 5] [.n, .n, .n, .n, .n, .n] _ [.code (csub (cd Try.f12) [1,1,0,1,0,0,1,1,0,0,1,1,1,0,1]), .inBlock 1, .code (csub (cd Try.f12) [1,1,0,1,0,0,1,1,1]), .inLoop (csub (cd Try.f12) [1,1,0,1,0,0]), .inBlock 0, .code (csub (cd Try.f12) [1,1,1])] [(4, .string (sb ([]))), (5, .int .i64 3)] w32 (by kernel_rfl) .nil ?_
                  refine GoS.ret (fn := Try.f12) (v := (.tuple #[.string (sb ([])), .int .i64 3])) Try.func12 (by kernel_rfl) ?_
                  rw [hR]
                  have hk : isKind kind := ⟨by omega, by omega⟩
                  have hh : headE (wantP kind) b = 3 := head_form (k := 2) (upto_succ (upto_succ upto0 (u8_of_bl (n := 103) (by first | decide | omega) (by omega))) (u8_of_bl (n := 108) (by first | decide | omega) (by omega))) (by simp [wantP]) (by omega) (fun z => by have := bl_of_u8 (n := 115) (by first | decide | omega) z; omega)
                  obtain ⟨e1, e2⟩ := open_err (openH hk hh (by decide)) (by decide)
                  exact ⟨ret_str2 e1.symm e2.symm, hM34⟩
                ·
                  have h30p : (bl b 2) = 115 := p_eq h30
                  have hb35 := bl_bd b 2
                  refine GoS.drawC (fun W_ => Kept [] w24 W_) 8 (by kernel_rfl) [0, 1, 19, 47] [.u (.int .i64 2) w24, .u (.bool true) w24, .u (.bool true) w24, .u (.string (sb b)) w24, .u (.int .i64 2) w24, .h (.int .u8 (bl b 2)), .u (.int .i64 2) w24, .u (.int .u8 115) w24, .u (.bool false) w24, .u (.bool false) w24, .u (.bool false) w24, .u (.int .i64 2) w24, .u (.bool false) w24, .u (.bool false) w24, .u (.bool false) w24, .u (.bool false) w24] (fun W_ => [(Instr.index 9 (.string (sb b)) (.int .i64 2)).run Try.prog W_ = .ok (.int .u8 (bl b 2)) W_]) [(.int .i64 2, .int .i64 2), (.bool true, .bool true), (.bool true, .bool true), (.string (sb b), .string (sb b)), (.int .i64 2, .int .i64 2), (.int .i64 2, .int .i64 2), (.int .u8 115, .int .u8 115), (.bool ((bl b 2) != 115), .bool false), (.bool false, .bool false), (.bool false, .bool false), (.int .i64 2, .int .i64 2), (.bool false, .bool false), (.bool false, .bool false), (.bool false, .bool false), (.bool false, .bool false)] [(0, .int .i64 kind), (1, .string (sb b)), (19, .int .i64 2), (47, .bool false)] (by kernel_rfl) (by kernel_rfl) ([(47, .bool false), (46, .bool false), (45, undef), (44, undef), (43, undef), (42, undef), (41, undef), (40, undef), (39, .bool false), (38, .bool false), (37, .int .i64 2), (36, .bool false), (35, .bool false), (34, .bool false), (33, .int .u8 115), (32, .int .i64 2), (31, .int .u8 (bl b 2)), (30, .int .i64 2), (29, .string (sb b)), (28, .bool true), (27, .bool true), (26, .int .i64 2)] ++ [(0, .int .i64 kind), (1, .string (sb b)), (6, .int .i64 2), (19, .int .i64 2)]) (fun W_ => by kernel_rfl) (by kernel_rfl) (.cons rfl (.cons rfl (.cons rfl (.cons rfl (.cons rfl (.cons rfl (.cons rfl (.cons (congrArg Value.bool h30) (.cons rfl (.cons rfl (.cons rfl (.cons rfl (.cons rfl (.cons rfl (.cons rfl Obs.nil))))))))))))))) (Kept.drewN _ _ 1) (fun W_ hW_ => (.cons (f_index 2 (by kernel_rfl) (by omega) (by first | omega | (simp [bytesOf_len']; done) | (simp [bytesOf_len'] <;> omega))) Obs.nil)) (fun w36 hw37 => ?_)
                  have hM38 := hM26.ext hw37
                  have o39 : (Builtin.len_ #[9] 3 #[.string (sb b)]).run Try.prog w36 = .ok (.int .i64 ((b.length : Nat) : Int)) w36 := f_len (by kernel_rfl)
                  refine GoS.run [0, 1, 6, 19, 25] [.n, .n, .n, .n, .n, .n, .n, .n, .n, .n, .n, .n, .n, .n, .n, .n, .n, .n, .n, .n, .n, .n, .n, .n, .n, .n, .n, .h (.int .i64 ((b.length : Nat) : Int)), .n, .n] _ [.code (csub (cd Try.f12) [1,1,0,1,0,0,1,1,0,0,1,0,1]), .code (csub (cd Try.f12) [1,1,0,1,0,0,1,1,0,0,1,1]), .inBlock 1, .code (csub (cd Try.f12) [1,1,0,1,0,0,1,1,1]), .inLoop (csub (cd Try.f12) [1,1,0,1,0,0]), .inBlock 0, .code (csub (cd Try.f12) [1,1,1])] [(0, .int .i64 kind), (1, .string (sb b)), (6, .int .i64 3), (19, .int .i64 3), (25, .bool (decide (3 ≥ ((b.length : Nat) : Int))))] w36 (by kernel_rfl) (.cons o39 .nil) ?_
                  refine GoS.cond (decide (3 ≥ ((b.length : Nat) : Int))) [.code (csub (cd Try.f12) [1,1,0,1,0,0,1,1,0,0,1,0,1,0]), .code (csub (cd Try.f12) [1,1,0,1,0,0,1,1,0,0,1,1]), .inBlock 1, .code (csub (cd Try.f12) [1,1,0,1,0,0,1,1,1]), .inLoop (csub (cd Try.f12) [1,1,0,1,0,0]), .inBlock 0, .code (csub (cd Try.f12) [1,1,1])] [.code (csub (cd Try.f12) [1,1,0,1,0,0,1,1,0,0,1,0,1,1]), .code (csub (cd Try.f12) [1,1,0,1,0,0,1,1,0,0,1,1]), .inBlock 1, .code (csub (cd Try.f12) [1,1,0,1,0,0,1,1,1]), .inLoop (csub (cd Try.f12) [1,1,0,1,0,0]), .inBlock 0, .code (csub (cd Try.f12) [1,1,1])] (by kernel_rfl) (fun h40 => ?_) (fun h40 => ?_)
                  ·
                    have h40p : 3 ≥ ((b.length : Nat) : Int) := of_decide_eq_true h40
                    refine GoS.run [4, 5] [.n, .n, .n, .n, .n] _ [.code (csub (cd Try.f12) [1,1,0,1,0,0,1,1,0,0,1,0,1,0,1]), .code (csub (cd Try.f12) [1,1,0,1,0,0,1,1,0,0,1,1]), .inBlock 1, .code (csub (cd Try.f12) [1,1,0,1,0,0,1,1,1]), .inLoop (csub (cd Try.f12) [1,1,0,1,0,0]), .inBlock 0, .code (csub (cd Try.f12) [1,1,1])] [(4, .string (sb ([]))), (5, .int .i64 2)] w36 (by kernel_rfl) .nil ?_
                    refine GoS.ret (fn := Try.f12) (v := (.tuple #[.string (sb ([])), .int .i64 2])) Try.func12 (by kernel_rfl) ?_
                    rw [hR]
                    have hk : isKind kind := ⟨by omega, by omega⟩
                    have hh : headE (wantP kind) b = 2 := head_short (k := 3) (upto_succ (upto_succ (upto_succ upto0 (u8_of_bl (n := 103) (by first | decide | omega) (by omega))) (u8_of_bl (n := 108) (by first | decide | omega) (by omega))) (u8_of_bl (n := 115) (by first | decide | omega) (by omega))) (by simp [wantP]) (by omega)
                    obtain ⟨e1, e2⟩ := open_err (openH hk hh (by decide)) (by decide)
                    exact ⟨ret_str2 e1.symm e2.symm, hM38⟩
                  ·
                    have h40p : ¬ (3 ≥ ((b.length : Nat) : Int)) := of_decide_eq_false h40
                    refine GoS.run [0, 1, 6, 19] [.n] _ [.code (csub (cd Try.f12) [1,1,0,1,0,0,1,1,0,0,1,1]), .inBlock 1, .code (csub (cd Try.f12) [1,1,0,1,0,0,1,1,1]), .inLoop (csub (cd Try.f12) [1,1,0,1,0,0]), .inBlock 0, .code (csub (cd Try.f12) [1,1,1])] [(0, .int .i64 kind), (1, .string (sb b)), (6, .int .i64 3), (19, .int .i64 3)] w36 (by kernel_rfl) .nil ?_
                    refine GoS.run [0, 1, 6, 19] [.n] _ [.code (csub (cd Try.f12) [1,1,0,1,0,0,1,1,0,0,1,1,0]), .code (csub (cd Try.f12) [1,1,0,1,0,0,1,1,0,0,1,1,1]), .inBlock 1, .code (csub (cd Try.f12) [1,1,0,1,0,0,1,1,1]), .inLoop (csub (cd Try.f12) [1,1,0,1,0,0]), .inBlock 0, .code (csub (cd Try.f12) [1,1,1])] [(0, .int .i64 kind), (1, .string (sb b)), (6, .int .i64 3), (19, .int .i64 3)] w36 (by kernel_rfl) .nil ?_
                    have hb41 := bl_bd b 3
                    refine GoS.drawC (fun W_ => Kept [] w36 W_) 8 (by kernel_rfl) [0, 1, 19, 47] [.u (.int .i64 3) w36, .u (.bool false) w36, .u (.bool false) w36, .u (.bool false) w36, .u (.bool false) w36, .u (.int .i64 3) w36, .u (.bool true) w36, .u (.bool true) w36, .u (.string (sb b)) w36, .u (.int .i64 3) w36, .h (.int .u8 (bl b 3)), .h (.int .i64 (bl b 3)), .u (.int .i64 kind) w36, .u (.bool ((bl b 3) != kind)) w36, .u (.bool ((bl b 3) != kind)) w36, .u (.bool ((bl b 3) != kind)) w36] (fun W_ => [(Instr.index 9 (.string (sb b)) (.int .i64 3)).run Try.prog W_ = .ok (.int .u8 (bl b 3)) W_, (convert 5 3 (.int .u8 (bl b 3))).run Try.prog W_ = .ok (.int .i64 (bl b 3)) W_]) [(.int .i64 3, .int .i64 3), (.bool false, .bool false), (.bool false, .bool false), (.bool false, .bool false), (.bool false, .bool false), (.int .i64 3, .int .i64 3), (.bool true, .bool true), (.bool true, .bool true), (.string (sb b), .string (sb b)), (.int .i64 3, .int .i64 3), (.int .i64 kind, .int .i64 kind), (.bool ((bl b 3) != kind), .bool ((bl b 3) != kind)), (.bool ((bl b 3) != kind), .bool ((bl b 3) != kind)), (.bool ((bl b 3) != kind), .bool ((bl b 3) != kind))] [(0, .int .i64 kind), (1, .string (sb b)), (19, .int .i64 3), (47, .bool ((bl b 3) != kind))] (by kernel_rfl) (by kernel_rfl) ([(47, .bool ((bl b 3) != kind)), (46, .bool ((bl b 3) != kind)), (45, .bool ((bl b 3) != kind)), (44, .int .i64 kind), (43, .int .i64 (bl b 3)), (42, .int .u8 (bl b 3)), (41, .int .i64 3), (40, .string (sb b)), (39, .bool true), (38, .bool true), (37, .int .i64 3), (36, .bool false), (35, .bool false), (34, undef), (33, undef), (32, undef), (31, undef), (30, undef), (29, undef), (28, .bool false), (27, .bool false), (26, .int .i64 3)] ++ [(0, .int .i64 kind), (1, .string (sb b)), (6, .int .i64 3), (19, .int .i64 3)]) (fun W_ => by kernel_rfl) (by kernel_rfl) (.cons rfl (.cons rfl (.cons rfl (.cons rfl (.cons rfl (.cons rfl (.cons rfl (.cons rfl (.cons rfl (.cons rfl (.cons rfl (.cons rfl (.cons rfl (.cons rfl Obs.nil)))))))))))))) (Kept.drewN _ _ 1) (fun W_ hW_ => (.cons (f_index 3 (by kernel_rfl) (by omega) (by first | omega | (simp [bytesOf_len']; done) | (simp [bytesOf_len'] <;> omega))) (.cons (f_conv (u := .int .u8) (by kernel_rfl) (by kernel_rfl) (IntWalk.i64_in _ (by omega))) Obs.nil))) (fun w42 hw43 => ?_)
                    have hM44 := hM38.ext hw43
                    refine GoS.cond ((bl b 3) != kind) [.code (csub (cd Try.f12) [1,1,0,1,0,0,1,1,0,0,1,1,1,0]), .inBlock 1, .code (csub (cd Try.f12) [1,1,0,1,0,0,1,1,1]), .inLoop (csub (cd Try.f12) [1,1,0,1,0,0]), .inBlock 0, .code (csub (cd Try.f12) [1,1,1])] [.code (csub (cd Try.f12) [1,1,0,1,0,0,1,1,0,0,1,1,1,1]), .inBlock 1, .code (csub (cd Try.f12) [1,1,0,1,0,0,1,1,1]), .inLoop (csub (cd Try.f12) [1,1,0,1,0,0]), .inBlock 0, .code (csub (cd Try.f12) [1,1,1])] (by kernel_rfl) (fun h45 => ?_) (fun h45 => ?_)
                    ·
                      have h45p : ¬ ((bl b 3) = kind) := bne_iff_ne.1 h45
                      refine GoS.run [4, 5] [.n, .n, .n, .n, .n] _ [.code (csub (cd Try.f12) [1,1,0,1,0,0,1,1,0,0,1,1,1,0,1]), .inBlock 1, .code (csub (cd Try.f12) [1,1,0,1,0,0,1,1,1]), .inLoop (csub (cd Try.f12) [1,1,0,1,0,0]), .inBlock 0, .code (csub (cd Try.f12) [1,1,1])] [(4, .string (sb ([]))), (5, .int .i64 3)] w42 (by kernel_rfl) .nil ?_
                      refine GoS.ret (fn := Try.f12) (v := (.tuple #[.string (sb ([])), .int .i64 3])) Try.func12 (by kernel_rfl) ?_
                      rw [hR]
                      have hk : isKind kind := ⟨by omega, by omega⟩
                      have hh : headE (wantP kind) b = 3 := head_form (k := 3) (upto_succ (upto_succ (upto_succ upto0 (u8_of_bl (n := 103) (by first | decide | omega) (by omega))) (u8_of_bl (n := 108) (by first | decide | omega) (by omega))) (u8_of_bl (n := 115) (by first | decide | omega) (by omega))) (by simp [wantP]) (by omega) (fun z => by have := bl_of_u8 (n := kind.toNat) (by first | decide | omega) z; omega)
                      obtain ⟨e1, e2⟩ := open_err (openH hk hh (by decide)) (by decide)
                      exact ⟨ret_str2 e1.symm e2.symm, hM44⟩
                    ·
                      have h45p : (bl b 3) = kind := p_eq h45
                      refine GoS.run [0, 1, 19] [.n] _ [.inBlock 1, .code (csub (cd Try.f12) [1,1,0,1,0,0,1,1,1]), .inLoop (csub (cd Try.f12) [1,1,0,1,0,0]), .inBlock 0, .code (csub (cd Try.f12) [1,1,1])] [(0, .int .i64 kind), (1, .string (sb b)), (19, .int .i64 3)] w42 (by kernel_rfl) .nil ?_
                      have o46 : (Instr.sliceAt 9 (.string (sb b)) (some (.int .i64 4)) none none).run Try.prog w42 = .ok (.string (sb (List.drop 4 b))) w42 := f_slice_lo 4 (by kernel_rfl) (by omega) (by first | omega | (simp [bytesOf_len']; done) | (simp [bytesOf_len'] <;> omega))
                      refine GoS.run [0, 1, 50] [.n, .n, .n, .n, .n, .n, .n, .n, .n, .n, .n, .n, .n, .n, .n, .n, .h (.string (sb (List.drop 4 b)))] _ [.inRegion (cops (csub (cd Try.f12) [1,1,1,0])) [2,3], .code (csub (cd Try.f12) [1,1,1,1])] [(0, .int .i64 kind), (1, .string (sb b)), (50, .string (sb (List.drop 4 b)))] w42 (by kernel_rfl) (.cons o46 .nil) ?_
                      refine GoS.call [0, 1] 17 #[.string (sb (List.drop 4 b))] (some 51) [.inRegion (cops (csub (cd Try.f12) [1,1,1,0])) [3], .code (csub (cd Try.f12) [1,1,1,1])] [(0, .int .i64 kind), (1, .string (sb b))] (by kernel_rfl) (at_c (List.drop 4 b) w42) ?_
                      rintro _ w48 ⟨b47, rfl, m49⟩
                      refine ⟨_, rfl, ?_⟩
                      have hM50 := Mem.join hM44 m49
                      refine GoS.run [0, 1, 7, 53] [.n, .n, .n, .n, .n] _ [.inRegion (cops (csub (cd Try.f12) [1,1,1,1,0])) [1,2,3,4,5,6], .code (csub (cd Try.f12) [1,1,1,1,1])] [(0, .int .i64 kind), (1, .string (sb b)), (7, .pointer (some (⟨b47, 0, none⟩))), (53, .pointer (some (⟨b47, 0, none⟩)))] w48 (by kernel_rfl) .nil ?_
                      refine GoS.call [0, 1, 7] 18 #[.pointer (some (⟨b47, 0, none⟩))] (some 54) [.inRegion (cops (csub (cd Try.f12) [1,1,1,1,0])) [2,3,4,5,6], .code (csub (cd Try.f12) [1,1,1,1,1])] [(0, .int .i64 kind), (1, .string (sb b)), (7, .pointer (some (⟨b47, 0, none⟩)))] (by kernel_rfl) (cblock_c (List.drop 4 b) b47 w48 (Mem.lend (R := [⟨48, 1, (obj b47), 1, [.string (sb (List.drop 4 b))]⟩]) (L := []) hM50)) ?_
                      rintro _ w51 ⟨rfl, m52⟩
                      refine ⟨_, rfl, ?_⟩
                      have hM53 : Mem [] w w51 [⟨48, 1, (obj b47), 1, [.string (sb (blkR (List.drop 4 b)))]⟩] := Mem.back (R := [⟨48, 1, (obj b47), 1, [.string (sb (List.drop 4 b))]⟩]) (L := []) hM50 m52
                      refine GoS.run [0, 1, 7, 8, 9, 58] [.n, .n, .n, .n, .n, .n, .n, .n, .n, .n, .n, .n] _ [.code (csub (cd Try.f12) [1,1,1,1,1,0,1]), .code (csub (cd Try.f12) [1,1,1,1,1,1])] [(0, .int .i64 kind), (1, .string (sb b)), (7, .pointer (some (⟨b47, 0, none⟩))), (8, .string (sb (blkS (List.drop 4 b)))), (9, .int .i64 (blkE (List.drop 4 b))), (58, .bool ((blkE (List.drop 4 b)) != 0))] w51 (by kernel_rfl) .nil ?_
                      refine GoS.cond ((blkE (List.drop 4 b)) != 0) [.code (csub (cd Try.f12) [1,1,1,1,1,0,1,0]), .code (csub (cd Try.f12) [1,1,1,1,1,1])] [.code (csub (cd Try.f12) [1,1,1,1,1,0,1,1]), .code (csub (cd Try.f12) [1,1,1,1,1,1])] (by kernel_rfl) (fun h54 => ?_) (fun h54 => ?_)
                      ·
                        have h54p : ¬ ((blkE (List.drop 4 b)) = 0) := bne_iff_ne.1 h54
                        have hM55 : Mem [] w w51 [] := hM53.sub (List.Sublist.cons _ (List.Sublist.refl _))
                        refine GoS.run [4, 5] [.n, .n, .n, .n, .n, .n] _ [.code (csub (cd Try.f12) [1,1,1,1,1,0,1,0,1]), .code (csub (cd Try.f12) [1,1,1,1,1,1])] [(4, .string (sb ([]))), (5, .int .i64 (blkE (List.drop 4 b)))] w51 (by kernel_rfl) .nil ?_
                        refine GoS.ret (fn := Try.f12) (v := (.tuple #[.string (sb ([])), .int .i64 (blkE (List.drop 4 b))])) Try.func12 (by kernel_rfl) ?_
                        rw [hR]
                        have hk : isKind kind := ⟨by omega, by omega⟩
                        have hh : headE (wantP kind) b = 0 := head_good (ws := wantP kind) (show ∀ j, j < 4 → b.getD j 0 = (wantP kind).getD j 0 from (upto_succ (upto_succ (upto_succ (upto_succ upto0 (u8_of_bl (n := 103) (by first | decide | omega) (by omega))) (u8_of_bl (n := 108) (by first | decide | omega) (by omega))) (u8_of_bl (n := 115) (by first | decide | omega) (by omega))) (u8_of_bl (n := kind.toNat) (by first | decide | omega) (by omega)))) (by simp [wantP]; omega)
                        obtain ⟨e1, e2⟩ := open_err (openB hk hh (bne_iff_ne.1 h54)) (bne_iff_ne.1 h54)
                        exact ⟨ret_str2 e1.symm e2.symm, hM55⟩
                      ·
                        have h54p : (blkE (List.drop 4 b)) = 0 := p_eq h54
                        refine GoS.run [0, 1, 7, 8] [.n] _ [.code (csub (cd Try.f12) [1,1,1,1,1,1])] [(0, .int .i64 kind), (1, .string (sb b)), (7, .pointer (some (⟨b47, 0, none⟩))), (8, .string (sb (blkS (List.drop 4 b))))] w51 (by kernel_rfl) .nil ?_
                        refine GoS.run [0, 1, 8, 60] [.n, .n, .n, .n] _ [.inRegion (cops (csub (cd Try.f12) [1,1,1,1,1,1,0,0])) [1,2,3], .code (csub (cd Try.f12) [1,1,1,1,1,1,0,1]), .code (csub (cd Try.f12) [1,1,1,1,1,1,1])] [(0, .int .i64 kind), (1, .string (sb b)), (8, .string (sb (blkS (List.drop 4 b)))), (60, .pointer (some (⟨b47, 0, none⟩)))] w51 (by kernel_rfl) .nil ?_
                        refine GoS.call [0, 1, 8] 19 #[.pointer (some (⟨b47, 0, none⟩))] (some 61) [.inRegion (cops (csub (cd Try.f12) [1,1,1,1,1,1,0,0])) [2,3], .code (csub (cd Try.f12) [1,1,1,1,1,1,0,1]), .code (csub (cd Try.f12) [1,1,1,1,1,1,1])] [(0, .int .i64 kind), (1, .string (sb b)), (8, .string (sb (blkS (List.drop 4 b))))] (by kernel_rfl) (crest_c (blkR (List.drop 4 b)) b47 w51 (Mem.lend (R := [⟨48, 1, (obj b47), 1, [.string (sb (blkR (List.drop 4 b)))]⟩]) (L := []) hM53)) ?_
                        rintro _ w56 ⟨rfl, m57⟩
                        refine ⟨_, rfl, ?_⟩
                        have hM58 : Mem [] w w56 [⟨48, 1, (obj b47), 1, [.string (sb (blkR (List.drop 4 b)))]⟩] := Mem.back (R := [⟨48, 1, (obj b47), 1, [.string (sb (blkR (List.drop 4 b)))]⟩]) (L := []) hM53 m57
                        have o59 : (Builtin.len_ #[9] 3 #[.string (sb (blkR (List.drop 4 b)))]).run Try.prog w56 = .ok (.int .i64 (((blkR (List.drop 4 b)).length : Nat) : Int)) w56 := f_len (by kernel_rfl)
                        have hM60 : Mem [] w w56 [] := hM58.sub (List.Sublist.cons _ (List.Sublist.refl _))
                        refine GoS.run [0, 1, 8, 10, 63] [.h (.int .i64 (((blkR (List.drop 4 b)).length : Nat) : Int)), .n, .n, .n, .n, .n, .n, .n, .n, .n] _ [.code (csub (cd Try.f12) [1,1,1,1,1,1,0,1,0,1]), .inBlock 2, .code (csub (cd Try.f12) [1,1,1,1,1,1,1])] [(0, .int .i64 kind), (1, .string (sb b)), (8, .string (sb (blkS (List.drop 4 b)))), (10, .int .i64 (((blkR (List.drop 4 b)).length : Nat) : Int)), (63, .bool (decide ((((blkR (List.drop 4 b)).length : Nat) : Int) < 4)))] w56 (by kernel_rfl) (.cons o59 .nil) ?_
                        refine GoS.cond (decide ((((blkR (List.drop 4 b)).length : Nat) : Int) < 4)) [.code (csub (cd Try.f12) [1,1,1,1,1,1,0,1,0,1,0]), .inBlock 2, .code (csub (cd Try.f12) [1,1,1,1,1,1,1])] [.code (csub (cd Try.f12) [1,1,1,1,1,1,0,1,0,1,1]), .inBlock 2, .code (csub (cd Try.f12) [1,1,1,1,1,1,1])] (by kernel_rfl) (fun h61 => ?_) (fun h61 => ?_)
                        ·
                          have h61p : (((blkR (List.drop 4 b)).length : Nat) : Int) < 4 := of_decide_eq_true h61
                          refine GoS.run [4, 5] [.n, .n, .n, .n, .n] _ [.code (csub (cd Try.f12) [1,1,1,1,1,1,0,1,0,1,0,1]), .inBlock 2, .code (csub (cd Try.f12) [1,1,1,1,1,1,1])] [(4, .string (sb ([]))), (5, .int .i64 2)] w56 (by kernel_rfl) .nil ?_
                          refine GoS.ret (fn := Try.f12) (v := (.tuple #[.string (sb ([])), .int .i64 2])) Try.func12 (by kernel_rfl) ?_
                          rw [hR]
                          have hk : isKind kind := ⟨by omega, by omega⟩
                          have hh : headE (wantP kind) b = 0 := head_good (ws := wantP kind) (show ∀ j, j < 4 → b.getD j 0 = (wantP kind).getD j 0 from (upto_succ (upto_succ (upto_succ (upto_succ upto0 (u8_of_bl (n := 103) (by first | decide | omega) (by omega))) (u8_of_bl (n := 108) (by first | decide | omega) (by omega))) (u8_of_bl (n := 115) (by first | decide | omega) (by omega))) (u8_of_bl (n := kind.toNat) (by first | decide | omega) (by omega)))) (by simp [wantP]; omega)
                          have ho := openR hk hh (p_eq h54)
                          have hn := blkN_le (List.drop 4 b)
                          have hrl : (blkR (List.drop 4 b)).length = b.length - 4 - blkN (List.drop 4 b) := by rw [blkR, List.length_drop, List.length_drop]
                          rw [List.length_drop] at hn
                          rw [if_pos (by omega)] at ho
                          obtain ⟨e1, e2⟩ := open_err ho (by decide)
                          exact ⟨ret_str2 e1.symm e2.symm, hM60⟩
                        ·
                          have h61p : ¬ ((((blkR (List.drop 4 b)).length : Nat) : Int) < 4) := of_decide_eq_false h61
                          refine GoS.run [0, 1, 8, 66] [.n, .n, .n, .n, .n, .n] _ [.code (csub (cd Try.f12) [1,1,1,1,1,1,0,1,0,1,1,1]), .inBlock 2, .code (csub (cd Try.f12) [1,1,1,1,1,1,1])] [(0, .int .i64 kind), (1, .string (sb b)), (8, .string (sb (blkS (List.drop 4 b)))), (66, .bool (decide ((((blkR (List.drop 4 b)).length : Nat) : Int) > 4)))] w56 (by kernel_rfl) .nil ?_
                          refine GoS.cond (decide ((((blkR (List.drop 4 b)).length : Nat) : Int) > 4)) [.code (csub (cd Try.f12) [1,1,1,1,1,1,0,1,0,1,1,1,0]), .inBlock 2, .code (csub (cd Try.f12) [1,1,1,1,1,1,1])] [.code (csub (cd Try.f12) [1,1,1,1,1,1,0,1,0,1,1,1,1]), .inBlock 2, .code (csub (cd Try.f12) [1,1,1,1,1,1,1])] (by kernel_rfl) (fun h62 => ?_) (fun h62 => ?_)
                          ·
                            have h62p : (((blkR (List.drop 4 b)).length : Nat) : Int) > 4 := of_decide_eq_true h62
                            refine GoS.run [4, 5] [.n, .n, .n, .n, .n] _ [.code (csub (cd Try.f12) [1,1,1,1,1,1,0,1,0,1,1,1,0,1]), .inBlock 2, .code (csub (cd Try.f12) [1,1,1,1,1,1,1])] [(4, .string (sb ([]))), (5, .int .i64 5)] w56 (by kernel_rfl) .nil ?_
                            refine GoS.ret (fn := Try.f12) (v := (.tuple #[.string (sb ([])), .int .i64 5])) Try.func12 (by kernel_rfl) ?_
                            rw [hR]
                            have hk : isKind kind := ⟨by omega, by omega⟩
                            have hh : headE (wantP kind) b = 0 := head_good (ws := wantP kind) (show ∀ j, j < 4 → b.getD j 0 = (wantP kind).getD j 0 from (upto_succ (upto_succ (upto_succ (upto_succ upto0 (u8_of_bl (n := 103) (by first | decide | omega) (by omega))) (u8_of_bl (n := 108) (by first | decide | omega) (by omega))) (u8_of_bl (n := 115) (by first | decide | omega) (by omega))) (u8_of_bl (n := kind.toNat) (by first | decide | omega) (by omega)))) (by simp [wantP]; omega)
                            have ho := openR hk hh (p_eq h54)
                            have hn := blkN_le (List.drop 4 b)
                            have hrl : (blkR (List.drop 4 b)).length = b.length - 4 - blkN (List.drop 4 b) := by rw [blkR, List.length_drop, List.length_drop]
                            rw [List.length_drop] at hn
                            rw [if_neg (by omega), if_pos (by omega)] at ho
                            obtain ⟨e1, e2⟩ := open_err ho (by decide)
                            exact ⟨ret_str2 e1.symm e2.symm, hM60⟩
                          ·
                            have h62p : ¬ ((((blkR (List.drop 4 b)).length : Nat) : Int) > 4) := of_decide_eq_false h62
                            refine GoS.run [0, 1, 8] [.n] _ [.inBlock 2, .code (csub (cd Try.f12) [1,1,1,1,1,1,1])] [(0, .int .i64 kind), (1, .string (sb b)), (8, .string (sb (blkS (List.drop 4 b))))] w56 (by kernel_rfl) .nil ?_
                            refine GoS.run [1, 8, 70, 71] [.n, .n, .n, .n, .n, .n] _ [.inRegion (cops (csub (cd Try.f12) [1,1,1,1,1,1,1,0,0])) [2,3,4,5,6,7], .code (csub (cd Try.f12) [1,1,1,1,1,1,1,0,1]), .code (csub (cd Try.f12) [1,1,1,1,1,1,1,1])] [(1, .string (sb b)), (8, .string (sb (blkS (List.drop 4 b)))), (70, .int .i64 kind), (71, .string (sb (blkS (List.drop 4 b))))] w56 (by kernel_rfl) .nil ?_
                            refine GoS.call [1, 8] 7 #[.int .i64 kind, .string (sb (blkS (List.drop 4 b)))] (some 72) [.inRegion (cops (csub (cd Try.f12) [1,1,1,1,1,1,1,0,0])) [3,4,5,6,7], .code (csub (cd Try.f12) [1,1,1,1,1,1,1,0,1]), .code (csub (cd Try.f12) [1,1,1,1,1,1,1,1])] [(1, .string (sb b)), (8, .string (sb (blkS (List.drop 4 b))))] (by kernel_rfl) (seal_c kind (blkS (List.drop 4 b)) (by (have q1 := blkS_len (List.drop 4 b); have q2 := blkN_le (List.drop 4 b); rw [List.length_drop] at q2; omega)) w56) ?_
                            rintro _ w63 ⟨rfl, m64⟩
                            refine ⟨_, rfl, ?_⟩
                            have hM65 := Mem.join hM60 m64
                            have hl66 := sealT_len kind (blkS (List.drop 4 b))
                            have o67 : (binOp .neq 9 (.string (sb (sealT kind (blkS (List.drop 4 b))))) (.string (sb b))).run Try.prog w63 = .ok (.bool (!(decide ((sealT kind (blkS (List.drop 4 b))) = b)))) w63 := f_strneq
                            refine GoS.run [8, 77] [.n, .n, .n, .n, .n, .n, .n, .n, .n, .n, .h (.bool (!(decide ((sealT kind (blkS (List.drop 4 b))) = b)))), .n] _ [.code (csub (cd Try.f12) [1,1,1,1,1,1,1,0,1,1]), .code (csub (cd Try.f12) [1,1,1,1,1,1,1,1])] [(8, .string (sb (blkS (List.drop 4 b)))), (77, .bool (!(decide ((sealT kind (blkS (List.drop 4 b))) = b))))] w63 (by kernel_rfl) (.cons o67 .nil) ?_
                            refine GoS.cond (!(decide ((sealT kind (blkS (List.drop 4 b))) = b))) [.code (csub (cd Try.f12) [1,1,1,1,1,1,1,0,1,1,0]), .code (csub (cd Try.f12) [1,1,1,1,1,1,1,1])] [.code (csub (cd Try.f12) [1,1,1,1,1,1,1,0,1,1,1]), .code (csub (cd Try.f12) [1,1,1,1,1,1,1,1])] (by kernel_rfl) (fun h68 => ?_) (fun h68 => ?_)
                            ·
                              have h68p : ¬ ((sealT kind (blkS (List.drop 4 b))) = b) := of_decide_eq_false (p_nf h68)
                              refine GoS.run [4, 5] [.n, .n, .n, .n, .n] _ [.code (csub (cd Try.f12) [1,1,1,1,1,1,1,0,1,1,0,1]), .code (csub (cd Try.f12) [1,1,1,1,1,1,1,1])] [(4, .string (sb ([]))), (5, .int .i64 6)] w63 (by kernel_rfl) .nil ?_
                              refine GoS.ret (fn := Try.f12) (v := (.tuple #[.string (sb ([])), .int .i64 6])) Try.func12 (by kernel_rfl) ?_
                              rw [hR]
                              have hk : isKind kind := ⟨by omega, by omega⟩
                              have hh : headE (wantP kind) b = 0 := head_good (ws := wantP kind) (show ∀ j, j < 4 → b.getD j 0 = (wantP kind).getD j 0 from (upto_succ (upto_succ (upto_succ (upto_succ upto0 (u8_of_bl (n := 103) (by first | decide | omega) (by omega))) (u8_of_bl (n := 108) (by first | decide | omega) (by omega))) (u8_of_bl (n := 115) (by first | decide | omega) (by omega))) (u8_of_bl (n := kind.toNat) (by first | decide | omega) (by omega)))) (by simp [wantP]; omega)
                              have ho := openR hk hh (p_eq h54)
                              have hn := blkN_le (List.drop 4 b)
                              have hrl : (blkR (List.drop 4 b)).length = b.length - 4 - blkN (List.drop 4 b) := by rw [blkR, List.length_drop, List.length_drop]
                              rw [List.length_drop] at hn
                              rw [if_neg (by omega), if_neg (by omega), if_pos h68p] at ho
                              obtain ⟨e1, e2⟩ := open_err ho (by decide)
                              exact ⟨ret_str2 e1.symm e2.symm, hM65⟩
                            ·
                              have h68p : (sealT kind (blkS (List.drop 4 b))) = b := of_decide_eq_true (p_nt h68)
                              refine GoS.run [8] [.n] _ [.code (csub (cd Try.f12) [1,1,1,1,1,1,1,1])] [(8, .string (sb (blkS (List.drop 4 b))))] w63 (by kernel_rfl) .nil ?_
                              refine GoS.run [4, 5] [.n, .n, .n, .n, .n, .n] _ [.code (csub (cd Try.f12) [1,1,1,1,1,1,1,1,1])] [(4, .string (sb (blkS (List.drop 4 b)))), (5, .int .i64 0)] w63 (by kernel_rfl) .nil ?_
                              refine GoS.ret (fn := Try.f12) (v := (.tuple #[.string (sb (blkS (List.drop 4 b))), .int .i64 0])) Try.func12 (by kernel_rfl) ?_
                              rw [hR]
                              have hk : isKind kind := ⟨by omega, by omega⟩
                              have hh : headE (wantP kind) b = 0 := head_good (ws := wantP kind) (show ∀ j, j < 4 → b.getD j 0 = (wantP kind).getD j 0 from (upto_succ (upto_succ (upto_succ (upto_succ upto0 (u8_of_bl (n := 103) (by first | decide | omega) (by omega))) (u8_of_bl (n := 108) (by first | decide | omega) (by omega))) (u8_of_bl (n := 115) (by first | decide | omega) (by omega))) (u8_of_bl (n := kind.toNat) (by first | decide | omega) (by omega)))) (by simp [wantP]; omega)
                              have ho := openR hk hh (p_eq h54)
                              have hn := blkN_le (List.drop 4 b)
                              have hrl : (blkR (List.drop 4 b)).length = b.length - 4 - blkN (List.drop 4 b) := by rw [blkR, List.length_drop, List.length_drop]
                              rw [List.length_drop] at hn
                              rw [if_neg (by omega), if_neg (by omega), if_neg (fun z => z h68p)] at ho
                              obtain ⟨e1, e2⟩ := open_ok ho
                              exact ⟨ret_str2 e1.symm e2.symm, hM65⟩

set_option maxHeartbeats 2000000 in
theorem ropen_c (kind : Int) (b : List UInt8) (hs : 8 * b.length + 1000 ≤ 140737488355328) (w : World) :
    Calls Try.prog 13 #[.int .i64 kind, .string (sb b)] w (fun e w' => e = .returned (.tuple #[.string (sb (openS kind b)), .int .i64 (openE kind b)]) ∧ Mem [] w w' []) := by
  have hwant := want_at kind
  have hdl : (List.drop 4 b).length = b.length - 4 := List.length_drop ..
  obtain ⟨R, hR⟩ : ∃ R : Ending → World → Prop, R = (fun e w' => e = .returned (.tuple #[.string (sb (openS kind b)), .int .i64 (openE kind b)]) ∧ Mem [] w w' []) := ⟨_, rfl⟩
  rw [← hR]
  refine GoS.enter (n := 69) Try.func13 (by kernel_rfl) rfl [(0, .int .i64 kind), (1, .string (sb b))] (by kernel_rfl) (by kernel_rfl) ?_
  have hM0 := Mem.start w
  refine GoS.run [0, 1, 15] [.n, .n, .n, .n, .n, .n, .n, .n, .n, .n, .n] _ [.inRegion (cops (csub (cd Try.f13) [1,0,0])) [3,4,5], .code (csub (cd Try.f13) [1,0,1]), .code (csub (cd Try.f13) [1,1])] [(0, .int .i64 kind), (1, .string (sb b)), (15, .bool (decide (kind < 0)))] w (by kernel_rfl) .nil ?_
  refine GoS.fork 15 (decide (kind < 0)) (by kernel_rfl) (fun h1 => ?_) (fun h1 => ?_)
  ·
    have h1p : kind < 0 := of_decide_eq_true h1
    refine GoS.run [0, 1, 18] [.n, .n, .n] _ [.inRegion (cops (csub (cd Try.f13) [1,0,0])) [], .code (csub (cd Try.f13) [1,0,1]), .code (csub (cd Try.f13) [1,1])] [(0, .int .i64 kind), (1, .string (sb b)), (18, .bool true)] w (by kernel_rfl) .nil ?_
    refine GoS.run [4, 5] [.n, .n, .n, .n, .n, .n, .n] _ [.code (csub (cd Try.f13) [1,0,1,0,1]), .code (csub (cd Try.f13) [1,1])] [(4, .string (sb ([]))), (5, .int .i64 1)] w (by kernel_rfl) .nil ?_
    refine GoS.ret (fn := Try.f13) (v := (.tuple #[.string (sb ([])), .int .i64 1])) Try.func13 (by kernel_rfl) ?_
    rw [hR]
    have hk : ¬ isKind kind := fun z => by have := z.1; have := z.2; omega
    obtain ⟨e1, e2⟩ := open_err (open1 (b := b) hk) (by decide)
    exact ⟨ret_str2 e1.symm e2.symm, hM0⟩
  ·
    have h1p : ¬ (kind < 0) := of_decide_eq_false h1
    refine GoS.run [0, 1, 18] [.n, .n, .n] _ [.inRegion (cops (csub (cd Try.f13) [1,0,0])) [], .code (csub (cd Try.f13) [1,0,1]), .code (csub (cd Try.f13) [1,1])] [(0, .int .i64 kind), (1, .string (sb b)), (18, .bool (decide (kind > 255)))] w (by kernel_rfl) .nil ?_
    refine GoS.run [0, 1, 18] [.n] _ [.code (csub (cd Try.f13) [1,0,1]), .code (csub (cd Try.f13) [1,1])] [(0, .int .i64 kind), (1, .string (sb b)), (18, .bool (decide (kind > 255)))] w (by kernel_rfl) .nil ?_
    refine GoS.cond (decide (kind > 255)) [.code (csub (cd Try.f13) [1,0,1,0]), .code (csub (cd Try.f13) [1,1])] [.code (csub (cd Try.f13) [1,0,1,1]), .code (csub (cd Try.f13) [1,1])] (by kernel_rfl) (fun h2 => ?_) (fun h2 => ?_)
    ·
      have h2p : kind > 255 := of_decide_eq_true h2
      refine GoS.run [4, 5] [.n, .n, .n, .n, .n] _ [.code (csub (cd Try.f13) [1,0,1,0,1]), .code (csub (cd Try.f13) [1,1])] [(4, .string (sb ([]))), (5, .int .i64 1)] w (by kernel_rfl) .nil ?_
      refine GoS.ret (fn := Try.f13) (v := (.tuple #[.string (sb ([])), .int .i64 1])) Try.func13 (by kernel_rfl) ?_
      rw [hR]
      have hk : ¬ isKind kind := fun z => by have := z.1; have := z.2; omega
      obtain ⟨e1, e2⟩ := open_err (open1 (b := b) hk) (by decide)
      exact ⟨ret_str2 e1.symm e2.symm, hM0⟩
    ·
      have h2p : ¬ (kind > 255) := of_decide_eq_false h2
      refine GoS.run [0, 1] [.n] _ [.code (csub (cd Try.f13) [1,1])] [(0, .int .i64 kind), (1, .string (sb b))] w (by kernel_rfl) .nil ?_
      have o7 : (convert 3 5 (.int .i64 kind)).run Try.prog w = .ok (.int .u8 (((Int.toNat kind) : Nat) : Int)) w := f_conv (u := .int .i64) (by kernel_rfl) (by kernel_rfl) ((IntWalk.u8_in _ (by omega)).trans (by omega))
      obtain ⟨v3, w4, hr5, hM6⟩ := m_lit sT34 hM0 (n := 1) (parts := #[(0, .int .u8 (((Int.toNat kind) : Nat) : Int))]) (cs := [.int .u8 (((Int.toNat kind) : Nat) : Int)]) (by decide) (by kernel_rfl) rfl
      have o8 : (Instr.buildSlice 34 1 #[(0, .int .u8 (((Int.toNat kind) : Nat) : Int))]).run Try.prog w = .ok v3 w4 := hr5
      have o9 : (convert 34 9 (v3)).run Try.prog w4 = .ok (.string (sb (bytesOf ([(((Int.toNat kind) : Nat) : Int)] : List Int)))) w4 := f_string_i sT34 (by kernel_rfl) (by kernel_rfl) (hM6.rd 0 rfl) (by intro x hx; simp at hx; omega)
      have o10 : (binOp .add 9 (.string (sb ([103, 108, 115] : List UInt8))) (.string (sb (bytesOf ([(((Int.toNat kind) : Nat) : Int)] : List Int))))).run Try.prog w4 = .ok (.string (sb (([103, 108, 115] : List UInt8) ++ (bytesOf ([(((Int.toNat kind) : Nat) : Int)] : List Int))))) w4 := f_stradd (by first | omega | (simp [bytesOf_len'] <;> omega))
      have o11 : (Builtin.len_ #[9] 3 #[.string (sb b)]).run Try.prog w4 = .ok (.int .i64 ((b.length : Nat) : Int)) w4 := f_len (by kernel_rfl)
      have hM12 : Mem [] w w4 [] := hM6.sub (List.Sublist.cons _ (List.Sublist.refl _))
      refine GoS.run [0, 1, 6, 7, 31] [.n, .n, .n, .h (.int .u8 (((Int.toNat kind) : Nat) : Int)), .u (v3) (w4), .h (.string (sb (bytesOf ([(((Int.toNat kind) : Nat) : Int)] : List Int)))), .h (.string (sb (([103, 108, 115] : List UInt8) ++ (bytesOf ([(((Int.toNat kind) : Nat) : Int)] : List Int))))), .n, .n, .n, .n, .n, .n, .n, .n, .n, .n, .n, .n, .n, .n, .n, .n, .n, .n, .n, .n, .n, .n, .n, .n, .h (.int .i64 ((b.length : Nat) : Int)), .n, .n] _ [.code (csub (cd Try.f13) [1,1,1,0,1,0,0,1,0,0,0,1]), .code (csub (cd Try.f13) [1,1,1,0,1,0,0,1,0,0,1]), .inBlock 1, .code (csub (cd Try.f13) [1,1,1,0,1,0,0,1,1]), .inLoop (csub (cd Try.f13) [1,1,1,0,1,0,0]), .inBlock 0, .code (csub (cd Try.f13) [1,1,1,1])] [(0, .int .i64 kind), (1, .string (sb b)), (6, .string (sb (([103, 108, 115] : List UInt8) ++ (bytesOf ([(((Int.toNat kind) : Nat) : Int)] : List Int))))), (7, .int .i64 0), (31, .bool (decide (0 ≥ ((b.length : Nat) : Int))))] w4 (by kernel_rfl) (.cons o7 (.cons o8 (.cons o9 (.cons o10 (.cons o11 .nil))))) ?_
      refine GoS.cond (decide (0 ≥ ((b.length : Nat) : Int))) [.code (csub (cd Try.f13) [1,1,1,0,1,0,0,1,0,0,0,1,0]), .code (csub (cd Try.f13) [1,1,1,0,1,0,0,1,0,0,1]), .inBlock 1, .code (csub (cd Try.f13) [1,1,1,0,1,0,0,1,1]), .inLoop (csub (cd Try.f13) [1,1,1,0,1,0,0]), .inBlock 0, .code (csub (cd Try.f13) [1,1,1,1])] [.code (csub (cd Try.f13) [1,1,1,0,1,0,0,1,0,0,0,1,1]), .code (csub (cd Try.f13) [1,1,1,0,1,0,0,1,0,0,1]), .inBlock 1, .code (csub (cd Try.f13) [1,1,1,0,1,0,0,1,1]), .inLoop (csub (cd Try.f13) [1,1,1,0,1,0,0]), .inBlock 0, .code (csub (cd Try.f13) [1,1,1,1])] (by kernel_rfl) (fun h13 => ?_) (fun h13 => ?_)
      ·
        have h13p : 0 ≥ ((b.length : Nat) : Int) := of_decide_eq_true h13
        refine GoS.run [4, 5] [.n, .n, .n, .n, .n] _ [.code (csub (cd Try.f13) [1,1,1,0,1,0,0,1,0,0,0,1,0,1]), .code (csub (cd Try.f13) [1,1,1,0,1,0,0,1,0,0,1]), .inBlock 1, .code (csub (cd Try.f13) [1,1,1,0,1,0,0,1,1]), .inLoop (csub (cd Try.f13) [1,1,1,0,1,0,0]), .inBlock 0, .code (csub (cd Try.f13) [1,1,1,1])] [(4, .string (sb ([]))), (5, .int .i64 2)] w4 (by kernel_rfl) .nil ?_
        refine GoS.ret (fn := Try.f13) (v := (.tuple #[.string (sb ([])), .int .i64 2])) Try.func13 (by kernel_rfl) ?_
        rw [hR]
        have hk : isKind kind := ⟨by omega, by omega⟩
        have hw3 := hwant.2.2.2 (by omega) (by omega)
        have hh : headE (wantP kind) b = 2 := head_short (k := 0) upto0 (by simp [wantP]) (by omega)
        obtain ⟨e1, e2⟩ := open_err (openH hk hh (by decide)) (by decide)
        exact ⟨ret_str2 e1.symm e2.symm, hM12⟩
      ·
        have h13p : ¬ (0 ≥ ((b.length : Nat) : Int)) := of_decide_eq_false h13
        refine GoS.run [0, 1, 6, 7] [.n] _ [.code (csub (cd Try.f13) [1,1,1,0,1,0,0,1,0,0,1]), .inBlock 1, .code (csub (cd Try.f13) [1,1,1,0,1,0,0,1,1]), .inLoop (csub (cd Try.f13) [1,1,1,0,1,0,0]), .inBlock 0, .code (csub (cd Try.f13) [1,1,1,1])] [(0, .int .i64 kind), (1, .string (sb b)), (6, .string (sb (([103, 108, 115] : List UInt8) ++ (bytesOf ([(((Int.toNat kind) : Nat) : Int)] : List Int))))), (7, .int .i64 0)] w4 (by kernel_rfl) .nil ?_
        refine GoS.run [0, 1, 6, 7] [.n] _ [.code (csub (cd Try.f13) [1,1,1,0,1,0,0,1,0,0,1,0]), .code (csub (cd Try.f13) [1,1,1,0,1,0,0,1,0,0,1,1]), .inBlock 1, .code (csub (cd Try.f13) [1,1,1,0,1,0,0,1,1]), .inLoop (csub (cd Try.f13) [1,1,1,0,1,0,0]), .inBlock 0, .code (csub (cd Try.f13) [1,1,1,1])] [(0, .int .i64 kind), (1, .string (sb b)), (6, .string (sb (([103, 108, 115] : List UInt8) ++ (bytesOf ([(((Int.toNat kind) : Nat) : Int)] : List Int))))), (7, .int .i64 0)] w4 (by kernel_rfl) .nil ?_
        have hb14 := bl_bd b 0
        have hb15 := bl_bd (([103, 108, 115] : List UInt8) ++ (bytesOf ([(((Int.toNat kind) : Nat) : Int)] : List Int))) 0
        refine GoS.drawC (fun W_ => Kept [] w4 W_) 9 (by kernel_rfl) [0, 1, 6, 7, 38] [.u (.string (sb b)) w4, .u (.int .i64 0) w4, .h (.int .u8 (bl b 0)), .u (.string (sb (([103, 108, 115] : List UInt8) ++ (bytesOf ([(((Int.toNat kind) : Nat) : Int)] : List Int))))) w4, .u (.int .i64 0) w4, .h (.int .u8 (bl (([103, 108, 115] : List UInt8) ++ (bytesOf ([(((Int.toNat kind) : Nat) : Int)] : List Int))) 0)), .u (.bool ((bl b 0) != (bl (([103, 108, 115] : List UInt8) ++ (bytesOf ([(((Int.toNat kind) : Nat) : Int)] : List Int))) 0))) w4] (fun W_ => [(Instr.index 9 (.string (sb b)) (.int .i64 0)).run Try.prog W_ = .ok (.int .u8 (bl b 0)) W_, (Instr.index 9 (.string (sb (([103, 108, 115] : List UInt8) ++ (bytesOf ([(((Int.toNat kind) : Nat) : Int)] : List Int))))) (.int .i64 0)).run Try.prog W_ = .ok (.int .u8 (bl (([103, 108, 115] : List UInt8) ++ (bytesOf ([(((Int.toNat kind) : Nat) : Int)] : List Int))) 0)) W_]) [(.string (sb b), .string (sb b)), (.int .i64 0, .int .i64 0), (.string (sb (([103, 108, 115] : List UInt8) ++ (bytesOf ([(((Int.toNat kind) : Nat) : Int)] : List Int)))), .string (sb (([103, 108, 115] : List UInt8) ++ (bytesOf ([(((Int.toNat kind) : Nat) : Int)] : List Int))))), (.int .i64 0, .int .i64 0), (.bool ((bl b 0) != (bl (([103, 108, 115] : List UInt8) ++ (bytesOf ([(((Int.toNat kind) : Nat) : Int)] : List Int))) 0)), .bool ((bl b 0) != (bl (([103, 108, 115] : List UInt8) ++ (bytesOf ([(((Int.toNat kind) : Nat) : Int)] : List Int))) 0)))] [(0, .int .i64 kind), (1, .string (sb b)), (6, .string (sb (([103, 108, 115] : List UInt8) ++ (bytesOf ([(((Int.toNat kind) : Nat) : Int)] : List Int))))), (7, .int .i64 0), (38, .bool ((bl b 0) != (bl (([103, 108, 115] : List UInt8) ++ (bytesOf ([(((Int.toNat kind) : Nat) : Int)] : List Int))) 0)))] (by kernel_rfl) (by kernel_rfl) ([(38, .bool ((bl b 0) != (bl (([103, 108, 115] : List UInt8) ++ (bytesOf ([(((Int.toNat kind) : Nat) : Int)] : List Int))) 0))), (37, .int .u8 (bl (([103, 108, 115] : List UInt8) ++ (bytesOf ([(((Int.toNat kind) : Nat) : Int)] : List Int))) 0)), (36, .int .i64 0), (35, .string (sb (([103, 108, 115] : List UInt8) ++ (bytesOf ([(((Int.toNat kind) : Nat) : Int)] : List Int))))), (34, .int .u8 (bl b 0)), (33, .int .i64 0), (32, .string (sb b))] ++ [(0, .int .i64 kind), (1, .string (sb b)), (6, .string (sb (([103, 108, 115] : List UInt8) ++ (bytesOf ([(((Int.toNat kind) : Nat) : Int)] : List Int))))), (7, .int .i64 0)]) (fun W_ => by kernel_rfl) (by kernel_rfl) (.cons rfl (.cons rfl (.cons rfl (.cons rfl (.cons rfl Obs.nil))))) (Kept.drewN _ _ 1) (fun W_ hW_ => (.cons (f_index 0 (by kernel_rfl) (by omega) (by first | omega | (simp [bytesOf_len']; done) | (simp [bytesOf_len'] <;> omega))) (.cons (f_index 0 (by kernel_rfl) (by omega) (by first | omega | (simp [bytesOf_len']; done) | (simp [bytesOf_len'] <;> omega))) Obs.nil))) (fun w16 hw17 => ?_)
        have hM18 := hM12.ext hw17
        refine GoS.cond ((bl b 0) != (bl (([103, 108, 115] : List UInt8) ++ (bytesOf ([(((Int.toNat kind) : Nat) : Int)] : List Int))) 0)) [.code (csub (cd Try.f13) [1,1,1,0,1,0,0,1,0,0,1,1,0]), .inBlock 1, .code (csub (cd Try.f13) [1,1,1,0,1,0,0,1,1]), .inLoop (csub (cd Try.f13) [1,1,1,0,1,0,0]), .inBlock 0, .code (csub (cd Try.f13) [1,1,1,1])] [.code (csub (cd Try.f13) [1,1,1,0,1,0,0,1,0,0,1,1,1]), .inBlock 1, .code (csub (cd Try.f13) [1,1,1,0,1,0,0,1,1]), .inLoop (csub (cd Try.f13) [1,1,1,0,1,0,0]), .inBlock 0, .code (csub (cd Try.f13) [1,1,1,1])] (by kernel_rfl) (fun h19 => ?_) (fun h19 => ?_)
        ·
          have h19p : ¬ ((bl b 0) = (bl (([103, 108, 115] : List UInt8) ++ (bytesOf ([(((Int.toNat kind) : Nat) : Int)] : List Int))) 0)) := bne_iff_ne.1 h19
          refine GoS.run [4, 5] [.n, .n, .n, .n, .n] _ [.code (csub (cd Try.f13) [1,1,1,0,1,0,0,1,0,0,1,1,0,1]), .inBlock 1, .code (csub (cd Try.f13) [1,1,1,0,1,0,0,1,1]), .inLoop (csub (cd Try.f13) [1,1,1,0,1,0,0]), .inBlock 0, .code (csub (cd Try.f13) [1,1,1,1])] [(4, .string (sb ([]))), (5, .int .i64 3)] w16 (by kernel_rfl) .nil ?_
          refine GoS.ret (fn := Try.f13) (v := (.tuple #[.string (sb ([])), .int .i64 3])) Try.func13 (by kernel_rfl) ?_
          rw [hR]
          have hk : isKind kind := ⟨by omega, by omega⟩
          have hw3 := hwant.2.2.2 (by omega) (by omega)
          have hh : headE (wantP kind) b = 3 := head_form (k := 0) upto0 (by simp [wantP]) (by omega) (fun z => by have := bl_of_u8 (n := 103) (by first | decide | omega) z; omega)
          obtain ⟨e1, e2⟩ := open_err (openH hk hh (by decide)) (by decide)
          exact ⟨ret_str2 e1.symm e2.symm, hM18⟩
        ·
          have h19p : (bl b 0) = (bl (([103, 108, 115] : List UInt8) ++ (bytesOf ([(((Int.toNat kind) : Nat) : Int)] : List Int))) 0) := p_eq h19
          refine GoS.run [0, 1, 6, 7] [.n] _ [.inBlock 1, .code (csub (cd Try.f13) [1,1,1,0,1,0,0,1,1]), .inLoop (csub (cd Try.f13) [1,1,1,0,1,0,0]), .inBlock 0, .code (csub (cd Try.f13) [1,1,1,1])] [(0, .int .i64 kind), (1, .string (sb b)), (6, .string (sb (([103, 108, 115] : List UInt8) ++ (bytesOf ([(((Int.toNat kind) : Nat) : Int)] : List Int))))), (7, .int .i64 0)] w16 (by kernel_rfl) .nil ?_
          have o20 : (Builtin.len_ #[9] 3 #[.string (sb b)]).run Try.prog w16 = .ok (.int .i64 ((b.length : Nat) : Int)) w16 := f_len (by kernel_rfl)
          refine GoS.run [0, 1, 6, 7, 31] [.n, .n, .n, .n, .n, .n, .n, .n, .n, .n, .n, .n, .n, .n, .n, .n, .n, .n, .n, .n, .n, .n, .h (.int .i64 ((b.length : Nat) : Int)), .n, .n] _ [.code (csub (cd Try.f13) [1,1,1,0,1,0,0,1,0,0,0,1]), .code (csub (cd Try.f13) [1,1,1,0,1,0,0,1,0,0,1]), .inBlock 1, .code (csub (cd Try.f13) [1,1,1,0,1,0,0,1,1]), .inLoop (csub (cd Try.f13) [1,1,1,0,1,0,0]), .inBlock 0, .code (csub (cd Try.f13) [1,1,1,1])] [(0, .int .i64 kind), (1, .string (sb b)), (6, .string (sb (([103, 108, 115] : List UInt8) ++ (bytesOf ([(((Int.toNat kind) : Nat) : Int)] : List Int))))), (7, .int .i64 1), (31, .bool (decide (1 ≥ ((b.length : Nat) : Int))))] w16 (by kernel_rfl) (.cons o20 .nil) ?_
          refine GoS.cond (decide (1 ≥ ((b.length : Nat) : Int))) [.code (csub (cd Try.f13) [1,1,1,0,1,0,0,1,0,0,0,1,0]), .code (csub (cd Try.f13) [1,1,1,0,1,0,0,1,0,0,1]), .inBlock 1, .code (csub (cd Try.f13) [1,1,1,0,1,0,0,1,1]), .inLoop (csub (cd Try.f13) [1,1,1,0,1,0,0]), .inBlock 0, .code (csub (cd Try.f13) [1,1,1,1])] [.code (csub (cd Try.f13) [1,1,1,0,1,0,0,1,0,0,0,1,1]), .code (csub (cd Try.f13) [1,1,1,0,1,0,0,1,0,0,1]), .inBlock 1, .code (csub (cd Try.f13) [1,1,1,0,1,0,0,1,1]), .inLoop (csub (cd Try.f13) [1,1,1,0,1,0,0]), .inBlock 0, .code (csub (cd Try.f13) [1,1,1,1])] (by kernel_rfl) (fun h21 => ?_) (fun h21 => ?_)
          ·
            have h21p : 1 ≥ ((b.length : Nat) : Int) := of_decide_eq_true h21
            refine GoS.run [4, 5] [.n, .n, .n, .n, .n] _ [.code (csub (cd Try.f13) [1,1,1,0,1,0,0,1,0,0,0,1,0,1]), .code (csub (cd Try.f13) [1,1,1,0,1,0,0,1,0,0,1]), .inBlock 1, .code (csub (cd Try.f13) [1,1,1,0,1,0,0,1,1]), .inLoop (csub (cd Try.f13) [1,1,1,0,1,0,0]), .inBlock 0, .code (csub (cd Try.f13) [1,1,1,1])] [(4, .string (sb ([]))), (5, .int .i64 2)] w16 (by kernel_rfl) .nil ?_
            refine GoS.ret (fn := Try.f13) (v := (.tuple #[.string (sb ([])), .int .i64 2])) Try.func13 (by kernel_rfl) ?_
            rw [hR]
            have hk : isKind kind := ⟨by omega, by omega⟩
            have hw3 := hwant.2.2.2 (by omega) (by omega)
            have hh : headE (wantP kind) b = 2 := head_short (k := 1) (upto_succ upto0 (u8_of_bl (n := 103) (by first | decide | omega) (by omega))) (by simp [wantP]) (by omega)
            obtain ⟨e1, e2⟩ := open_err (openH hk hh (by decide)) (by decide)
            exact ⟨ret_str2 e1.symm e2.symm, hM18⟩
          ·
            have h21p : ¬ (1 ≥ ((b.length : Nat) : Int)) := of_decide_eq_false h21
            refine GoS.run [0, 1, 6, 7] [.n] _ [.code (csub (cd Try.f13) [1,1,1,0,1,0,0,1,0,0,1]), .inBlock 1, .code (csub (cd Try.f13) [1,1,1,0,1,0,0,1,1]), .inLoop (csub (cd Try.f13) [1,1,1,0,1,0,0]), .inBlock 0, .code (csub (cd Try.f13) [1,1,1,1])] [(0, .int .i64 kind), (1, .string (sb b)), (6, .string (sb (([103, 108, 115] : List UInt8) ++ (bytesOf ([(((Int.toNat kind) : Nat) : Int)] : List Int))))), (7, .int .i64 1)] w16 (by kernel_rfl) .nil ?_
            refine GoS.run [0, 1, 6, 7] [.n] _ [.code (csub (cd Try.f13) [1,1,1,0,1,0,0,1,0,0,1,0]), .code (csub (cd Try.f13) [1,1,1,0,1,0,0,1,0,0,1,1]), .inBlock 1, .code (csub (cd Try.f13) [1,1,1,0,1,0,0,1,1]), .inLoop (csub (cd Try.f13) [1,1,1,0,1,0,0]), .inBlock 0, .code (csub (cd Try.f13) [1,1,1,1])] [(0, .int .i64 kind), (1, .string (sb b)), (6, .string (sb (([103, 108, 115] : List UInt8) ++ (bytesOf ([(((Int.toNat kind) : Nat) : Int)] : List Int))))), (7, .int .i64 1)] w16 (by kernel_rfl) .nil ?_
            have hb22 := bl_bd b 1
            have hb23 := bl_bd (([103, 108, 115] : List UInt8) ++ (bytesOf ([(((Int.toNat kind) : Nat) : Int)] : List Int))) 1
            refine GoS.drawC (fun W_ => Kept [] w16 W_) 9 (by kernel_rfl) [0, 1, 6, 7, 38] [.u (.string (sb b)) w16, .u (.int .i64 1) w16, .h (.int .u8 (bl b 1)), .u (.string (sb (([103, 108, 115] : List UInt8) ++ (bytesOf ([(((Int.toNat kind) : Nat) : Int)] : List Int))))) w16, .u (.int .i64 1) w16, .h (.int .u8 (bl (([103, 108, 115] : List UInt8) ++ (bytesOf ([(((Int.toNat kind) : Nat) : Int)] : List Int))) 1)), .u (.bool ((bl b 1) != (bl (([103, 108, 115] : List UInt8) ++ (bytesOf ([(((Int.toNat kind) : Nat) : Int)] : List Int))) 1))) w16] (fun W_ => [(Instr.index 9 (.string (sb b)) (.int .i64 1)).run Try.prog W_ = .ok (.int .u8 (bl b 1)) W_, (Instr.index 9 (.string (sb (([103, 108, 115] : List UInt8) ++ (bytesOf ([(((Int.toNat kind) : Nat) : Int)] : List Int))))) (.int .i64 1)).run Try.prog W_ = .ok (.int .u8 (bl (([103, 108, 115] : List UInt8) ++ (bytesOf ([(((Int.toNat kind) : Nat) : Int)] : List Int))) 1)) W_]) [(.string (sb b), .string (sb b)), (.int .i64 1, .int .i64 1), (.string (sb (([103, 108, 115] : List UInt8) ++ (bytesOf ([(((Int.toNat kind) : Nat) : Int)] : List Int)))), .string (sb (([103, 108, 115] : List UInt8) ++ (bytesOf ([(((Int.toNat kind) : Nat) : Int)] : List Int))))), (.int .i64 1, .int .i64 1), (.bool ((bl b 1) != (bl (([103, 108, 115] : List UInt8) ++ (bytesOf ([(((Int.toNat kind) : Nat) : Int)] : List Int))) 1)), .bool ((bl b 1) != (bl (([103, 108, 115] : List UInt8) ++ (bytesOf ([(((Int.toNat kind) : Nat) : Int)] : List Int))) 1)))] [(0, .int .i64 kind), (1, .string (sb b)), (6, .string (sb (([103, 108, 115] : List UInt8) ++ (bytesOf ([(((Int.toNat kind) : Nat) : Int)] : List Int))))), (7, .int .i64 1), (38, .bool ((bl b 1) != (bl (([103, 108, 115] : List UInt8) ++ (bytesOf ([(((Int.toNat kind) : Nat) : Int)] : List Int))) 1)))] (by kernel_rfl) (by kernel_rfl) ([(38, .bool ((bl b 1) != (bl (([103, 108, 115] : List UInt8) ++ (bytesOf ([(((Int.toNat kind) : Nat) : Int)] : List Int))) 1))), (37, .int .u8 (bl (([103, 108, 115] : List UInt8) ++ (bytesOf ([(((Int.toNat kind) : Nat) : Int)] : List Int))) 1)), (36, .int .i64 1), (35, .string (sb (([103, 108, 115] : List UInt8) ++ (bytesOf ([(((Int.toNat kind) : Nat) : Int)] : List Int))))), (34, .int .u8 (bl b 1)), (33, .int .i64 1), (32, .string (sb b))] ++ [(0, .int .i64 kind), (1, .string (sb b)), (6, .string (sb (([103, 108, 115] : List UInt8) ++ (bytesOf ([(((Int.toNat kind) : Nat) : Int)] : List Int))))), (7, .int .i64 1)]) (fun W_ => by kernel_rfl) (by kernel_rfl) (.cons rfl (.cons rfl (.cons rfl (.cons rfl (.cons rfl Obs.nil))))) (Kept.drewN _ _ 1) (fun W_ hW_ => (.cons (f_index 1 (by kernel_rfl) (by omega) (by first | omega | (simp [bytesOf_len']; done) | (simp [bytesOf_len'] <;> omega))) (.cons (f_index 1 (by kernel_rfl) (by omega) (by first | omega | (simp [bytesOf_len']; done) | (simp [bytesOf_len'] <;> omega))) Obs.nil))) (fun w24 hw25 => ?_)
            have hM26 := hM18.ext hw25
            refine GoS.cond ((bl b 1) != (bl (([103, 108, 115] : List UInt8) ++ (bytesOf ([(((Int.toNat kind) : Nat) : Int)] : List Int))) 1)) [.code (csub (cd Try.f13) [1,1,1,0,1,0,0,1,0,0,1,1,0]), .inBlock 1, .code (csub (cd Try.f13) [1,1,1,0,1,0,0,1,1]), .inLoop (csub (cd Try.f13) [1,1,1,0,1,0,0]), .inBlock 0, .code (csub (cd Try.f13) [1,1,1,1])] [.code (csub (cd Try.f13) [1,1,1,0,1,0,0,1,0,0,1,1,1]), .inBlock 1, .code (csub (cd Try.f13) [1,1,1,0,1,0,0,1,1]), .inLoop (csub (cd Try.f13) [1,1,1,0,1,0,0]), .inBlock 0, .code (csub (cd Try.f13) [1,1,1,1])] (by kernel_rfl) (fun h27 => ?_) (fun h27 => ?_)
            ·
              have h27p : ¬ ((bl b 1) = (bl (([103, 108, 115] : List UInt8) ++ (bytesOf ([(((Int.toNat kind) : Nat) : Int)] : List Int))) 1)) := bne_iff_ne.1 h27
              refine GoS.run [4, 5] [.n, .n, .n, .n, .n] _ [.code (csub (cd Try.f13) [1,1,1,0,1,0,0,1,0,0,1,1,0,1]), .inBlock 1, .code (csub (cd Try.f13) [1,1,1,0,1,0,0,1,1]), .inLoop (csub (cd Try.f13) [1,1,1,0,1,0,0]), .inBlock 0, .code (csub (cd Try.f13) [1,1,1,1])] [(4, .string (sb ([]))), (5, .int .i64 3)] w24 (by kernel_rfl) .nil ?_
              refine GoS.ret (fn := Try.f13) (v := (.tuple #[.string (sb ([])), .int .i64 3])) Try.func13 (by kernel_rfl) ?_
              rw [hR]
              have hk : isKind kind := ⟨by omega, by omega⟩
              have hw3 := hwant.2.2.2 (by omega) (by omega)
              have hh : headE (wantP kind) b = 3 := head_form (k := 1) (upto_succ upto0 (u8_of_bl (n := 103) (by first | decide | omega) (by omega))) (by simp [wantP]) (by omega) (fun z => by have := bl_of_u8 (n := 108) (by first | decide | omega) z; omega)
              obtain ⟨e1, e2⟩ := open_err (openH hk hh (by decide)) (by decide)
              exact ⟨ret_str2 e1.symm e2.symm, hM26⟩
            ·
              have h27p : (bl b 1) = (bl (([103, 108, 115] : List UInt8) ++ (bytesOf ([(((Int.toNat kind) : Nat) : Int)] : List Int))) 1) := p_eq h27
              refine GoS.run [0, 1, 6, 7] [.n] _ [.inBlock 1, .code (csub (cd Try.f13) [1,1,1,0,1,0,0,1,1]), .inLoop (csub (cd Try.f13) [1,1,1,0,1,0,0]), .inBlock 0, .code (csub (cd Try.f13) [1,1,1,1])] [(0, .int .i64 kind), (1, .string (sb b)), (6, .string (sb (([103, 108, 115] : List UInt8) ++ (bytesOf ([(((Int.toNat kind) : Nat) : Int)] : List Int))))), (7, .int .i64 1)] w24 (by kernel_rfl) .nil ?_
              have o28 : (Builtin.len_ #[9] 3 #[.string (sb b)]).run Try.prog w24 = .ok (.int .i64 ((b.length : Nat) : Int)) w24 := f_len (by kernel_rfl)
              refine GoS.run [0, 1, 6, 7, 31] [.n, .n, .n, .n, .n, .n, .n, .n, .n, .n, .n, .n, .n, .n, .n, .n, .n, .n, .n, .n, .n, .n, .h (.int .i64 ((b.length : Nat) : Int)), .n, .n] _ [.code (csub (cd Try.f13) [1,1,1,0,1,0,0,1,0,0,0,1]), .code (csub (cd Try.f13) [1,1,1,0,1,0,0,1,0,0,1]), .inBlock 1, .code (csub (cd Try.f13) [1,1,1,0,1,0,0,1,1]), .inLoop (csub (cd Try.f13) [1,1,1,0,1,0,0]), .inBlock 0, .code (csub (cd Try.f13) [1,1,1,1])] [(0, .int .i64 kind), (1, .string (sb b)), (6, .string (sb (([103, 108, 115] : List UInt8) ++ (bytesOf ([(((Int.toNat kind) : Nat) : Int)] : List Int))))), (7, .int .i64 2), (31, .bool (decide (2 ≥ ((b.length : Nat) : Int))))] w24 (by kernel_rfl) (.cons o28 .nil) ?_
              refine GoS.cond (decide (2 ≥ ((b.length : Nat) : Int))) [.code (csub (cd Try.f13) [1,1,1,0,1,0,0,1,0,0,0,1,0]), .code (csub (cd Try.f13) [1,1,1,0,1,0,0,1,0,0,1]), .inBlock 1, .code (csub (cd Try.f13) [1,1,1,0,1,0,0,1,1]), .inLoop (csub (cd Try.f13) [1,1,1,0,1,0,0]), .inBlock 0, .code (csub (cd Try.f13) [1,1,1,1])] [.code (csub (cd Try.f13) [1,1,1,0,1,0,0,1,0,0,0,1,1]), .code (csub (cd Try.f13) [1,1,1,0,1,0,0,1,0,0,1]), .inBlock 1, .code (csub (cd Try.f13) [1,1,1,0,1,0,0,1,1]), .inLoop (csub (cd Try.f13) [1,1,1,0,1,0,0]), .inBlock 0, .code (csub (cd Try.f13) [1,1,1,1])] (by kernel_rfl) (fun h29 => ?_) (fun h29 => ?_)
              ·
                have h29p : 2 ≥ ((b.length : Nat) : Int) := of_decide_eq_true h29
                refine GoS.run [4, 5] [.n, .n, .n, .n, .n] _ [.code (csub (cd Try.f13) [1,1,1,0,1,0,0,1,0,0,0,1,0,1]), .code (csub (cd Try.f13) [1,1,1,0,1,0,0,1,0,0,1]), .inBlock 1, .code (csub (cd Try.f13) [1,1,1,0,1,0,0,1,1]), .inLoop (csub (cd Try.f13) [1,1,1,0,1,0,0]), .inBlock 0, .code (csub (cd Try.f13) [1,1,1,1])] [(4, .string (sb ([]))), (5, .int .i64 2)] w24 (by kernel_rfl) .nil ?_
                refine GoS.ret (fn := Try.f13) (v := (.tuple #[.string (sb ([])), .int .i64 2])) Try.func13 (by kernel_rfl) ?_
                rw [hR]
                have hk : isKind kind := ⟨by omega, by omega⟩
                have hw3 := hwant.2.2.2 (by omega) (by omega)
                have hh : headE (wantP kind) b = 2 := head_short (k := 2) (upto_succ (upto_succ upto0 (u8_of_bl (n := 103) (by first | decide | omega) (by omega))) (u8_of_bl (n := 108) (by first | decide | omega) (by omega))) (by simp [wantP]) (by omega)
                obtain ⟨e1, e2⟩ := open_err (openH hk hh (by decide)) (by decide)
                exact ⟨ret_str2 e1.symm e2.symm, hM26⟩
              ·
                have h29p : ¬ (2 ≥ ((b.length : Nat) : Int)) := of_decide_eq_false h29
                refine GoS.run [0, 1, 6, 7] [.n] _ [.code (csub (cd Try.f13) [1,1,1,0,1,0,0,1,0,0,1]), .inBlock 1, .code (csub (cd Try.f13) [1,1,1,0,1,0,0,1,1]), .inLoop (csub (cd Try.f13) [1,1,1,0,1,0,0]), .inBlock 0, .code (csub (cd Try.f13) [1,1,1,1])] [(0, .int .i64 kind), (1, .string (sb b)), (6, .string (sb (([103, 108, 115] : List UInt8) ++ (bytesOf ([(((Int.toNat kind) : Nat) : Int)] : List Int))))), (7, .int .i64 2)] w24 (by kernel_rfl) .nil ?_
                refine GoS.run [0, 1, 6, 7] [.n] _ [.code (csub (cd Try.f13) [1,1,1,0,1,0,0,1,0,0,1,0]), .code (csub (cd Try.f13) [1,1,1,0,1,0,0,1,0,0,1,1]), .inBlock 1, .code (csub (cd Try.f13) [1,1,1,0,1,0,0,1,1]), .inLoop (csub (cd Try.f13) [1,1,1,0,1,0,0]), .inBlock 0, .code (csub (cd Try.f13) [1,1,1,1])] [(0, .int .i64 kind), (1, .string (sb b)), (6, .string (sb (([103, 108, 115] : List UInt8) ++ (bytesOf ([(((Int.toNat kind) : Nat) : Int)] : List Int))))), (7, .int .i64 2)] w24 (by kernel_rfl) .nil ?_
                have hb30 := bl_bd b 2
                have hb31 := bl_bd (([103, 108, 115] : List UInt8) ++ (bytesOf ([(((Int.toNat kind) : Nat) : Int)] : List Int))) 2
                refine GoS.drawC (fun W_ => Kept [] w24 W_) 9 (by kernel_rfl) [0, 1, 6, 7, 38] [.u (.string (sb b)) w24, .u (.int .i64 2) w24, .h (.int .u8 (bl b 2)), .u (.string (sb (([103, 108, 115] : List UInt8) ++ (bytesOf ([(((Int.toNat kind) : Nat) : Int)] : List Int))))) w24, .u (.int .i64 2) w24, .h (.int .u8 (bl (([103, 108, 115] : List UInt8) ++ (bytesOf ([(((Int.toNat kind) : Nat) : Int)] : List Int))) 2)), .u (.bool ((bl b 2) != (bl (([103, 108, 115] : List UInt8) ++ (bytesOf ([(((Int.toNat kind) : Nat) : Int)] : List Int))) 2))) w24] (fun W_ => [(Instr.index 9 (.string (sb b)) (.int .i64 2)).run Try.prog W_ = .ok (.int .u8 (bl b 2)) W_, (Instr.index 9 (.string (sb (([103, 108, 115] : List UInt8) ++ (bytesOf ([(((Int.toNat kind) : Nat) : Int)] : List Int))))) (.int .i64 2)).run Try.prog W_ = .ok (.int .u8 (bl (([103, 108, 115] : List UInt8) ++ (bytesOf ([(((Int.toNat kind) : Nat) : Int)] : List Int))) 2)) W_]) [(.string (sb b), .string (sb b)), (.int .i64 2, .int .i64 2), (.string (sb (([103, 108, 115] : List UInt8) ++ (bytesOf ([(((Int.toNat kind) : Nat) : Int)] : List Int)))), .string (sb (([103, 108, 115] : List UInt8) ++ (bytesOf ([(((Int.toNat kind) : Nat) : Int)] : List Int))))), (.int .i64 2, .int .i64 2), (.bool ((bl b 2) != (bl (([103, 108, 115] : List UInt8) ++ (bytesOf ([(((Int.toNat kind) : Nat) : Int)] : List Int))) 2)), .bool ((bl b 2) != (bl (([103, 108, 115] : List UInt8) ++ (bytesOf ([(((Int.toNat kind) : Nat) : Int)] : List Int))) 2)))] [(0, .int .i64 kind), (1, .string (sb b)), (6, .string (sb (([103, 108, 115] : List UInt8) ++ (bytesOf ([(((Int.toNat kind) : Nat) : Int)] : List Int))))), (7, .int .i64 2), (38, .bool ((bl b 2) != (bl (([103, 108, 115] : List UInt8) ++ (bytesOf ([(((Int.toNat kind) : Nat) : Int)] : List Int))) 2)))] (by kernel_rfl) (by kernel_rfl) ([(38, .bool ((bl b 2) != (bl (([103, 108, 115] : List UInt8) ++ (bytesOf ([(((Int.toNat kind) : Nat) : Int)] : List Int))) 2))), (37, .int .u8 (bl (([103, 108, 115] : List UInt8) ++ (bytesOf ([(((Int.toNat kind) : Nat) : Int)] : List Int))) 2)), (36, .int .i64 2), (35, .string (sb (([103, 108, 115] : List UInt8) ++ (bytesOf ([(((Int.toNat kind) : Nat) : Int)] : List Int))))), (34, .int .u8 (bl b 2)), (33, .int .i64 2), (32, .string (sb b))] ++ [(0, .int .i64 kind), (1, .string (sb b)), (6, .string (sb (([103, 108, 115] : List UInt8) ++ (bytesOf ([(((Int.toNat kind) : Nat) : Int)] : List Int))))), (7, .int .i64 2)]) (fun W_ => by kernel_rfl) (by kernel_rfl) (.cons rfl (.cons rfl (.cons rfl (.cons rfl (.cons rfl Obs.nil))))) (Kept.drewN _ _ 1) (fun W_ hW_ => (.cons (f_index 2 (by kernel_rfl) (by omega) (by first | omega | (simp [bytesOf_len']; done) | (simp [bytesOf_len'] <;> omega))) (.cons (f_index 2 (by kernel_rfl) (by omega) (by first | omega | (simp [bytesOf_len']; done) | (simp [bytesOf_len'] <;> omega))) Obs.nil))) (fun w32 hw33 => ?_)
                have hM34 := hM26.ext hw33
                refine GoS.cond ((bl b 2) != (bl (([103, 108, 115] : List UInt8) ++ (bytesOf ([(((Int.toNat kind) : Nat) : Int)] : List Int))) 2)) [.code (csub (cd Try.f13) [1,1,1,0,1,0,0,1,0,0,1,1,0]), .inBlock 1, .code (csub (cd Try.f13) [1,1,1,0,1,0,0,1,1]), .inLoop (csub (cd Try.f13) [1,1,1,0,1,0,0]), .inBlock 0, .code (csub (cd Try.f13) [1,1,1,1])] [.code (csub (cd Try.f13) [1,1,1,0,1,0,0,1,0,0,1,1,1]), .inBlock 1, .code (csub (cd Try.f13) [1,1,1,0,1,0,0,1,1]), .inLoop (csub (cd Try.f13) [1,1,1,0,1,0,0]), .inBlock 0, .code (csub (cd Try.f13) [1,1,1,1])] (by kernel_rfl) (fun h35 => ?_) (fun h35 => ?_)
                ·
                  have h35p : ¬ ((bl b 2) = (bl (([103, 108, 115] : List UInt8) ++ (bytesOf ([(((Int.toNat kind) : Nat) : Int)] : List Int))) 2)) := bne_iff_ne.1 h35
                  refine GoS.run [4, 5] [.n, .n, .n, .n, .n] _ [.code (csub (cd Try.f13) [1,1,1,0,1,0,0,1,0,0,1,1,0,1]), .inBlock 1, .code (csub (cd Try.f13) [1,1,1,0,1,0,0,1,1]), .inLoop (csub (cd Try.f13) [1,1,1,0,1,0,0]), .inBlock 0, .code (csub (cd Try.f13) [1,1,1,1])] [(4, .string (sb ([]))), (5, .int .i64 3)] w32 (by kernel_rfl) .nil ?_
                  refine GoS.ret (fn := Try.f13) (v := (.tuple #[.string (sb ([])), .int .i64 3])) Try.func13 (by kernel_rfl) ?_
                  rw [hR]
                  have hk : isKind kind := ⟨by omega, by omega⟩
                  have hw3 := hwant.2.2.2 (by omega) (by omega)
                  have hh : headE (wantP kind) b = 3 := head_form (k := 2) (upto_succ (upto_succ upto0 (u8_of_bl (n := 103) (by first | decide | omega) (by omega))) (u8_of_bl (n := 108) (by first | decide | omega) (by omega))) (by simp [wantP]) (by omega) (fun z => by have := bl_of_u8 (n := 115) (by first | decide | omega) z; omega)
                  obtain ⟨e1, e2⟩ := open_err (openH hk hh (by decide)) (by decide)
                  exact ⟨ret_str2 e1.symm e2.symm, hM34⟩
                ·
                  have h35p : (bl b 2) = (bl (([103, 108, 115] : List UInt8) ++ (bytesOf ([(((Int.toNat kind) : Nat) : Int)] : List Int))) 2) := p_eq h35
                  refine GoS.run [0, 1, 6, 7] [.n] _ [.inBlock 1, .code (csub (cd Try.f13) [1,1,1,0,1,0,0,1,1]), .inLoop (csub (cd Try.f13) [1,1,1,0,1,0,0]), .inBlock 0, .code (csub (cd Try.f13) [1,1,1,1])] [(0, .int .i64 kind), (1, .string (sb b)), (6, .string (sb (([103, 108, 115] : List UInt8) ++ (bytesOf ([(((Int.toNat kind) : Nat) : Int)] : List Int))))), (7, .int .i64 2)] w32 (by kernel_rfl) .nil ?_
                  have o36 : (Builtin.len_ #[9] 3 #[.string (sb b)]).run Try.prog w32 = .ok (.int .i64 ((b.length : Nat) : Int)) w32 := f_len (by kernel_rfl)
                  refine GoS.run [0, 1, 6, 7, 31] [.n, .n, .n, .n, .n, .n, .n, .n, .n, .n, .n, .n, .n, .n, .n, .n, .n, .n, .n, .n, .n, .n, .h (.int .i64 ((b.length : Nat) : Int)), .n, .n] _ [.code (csub (cd Try.f13) [1,1,1,0,1,0,0,1,0,0,0,1]), .code (csub (cd Try.f13) [1,1,1,0,1,0,0,1,0,0,1]), .inBlock 1, .code (csub (cd Try.f13) [1,1,1,0,1,0,0,1,1]), .inLoop (csub (cd Try.f13) [1,1,1,0,1,0,0]), .inBlock 0, .code (csub (cd Try.f13) [1,1,1,1])] [(0, .int .i64 kind), (1, .string (sb b)), (6, .string (sb (([103, 108, 115] : List UInt8) ++ (bytesOf ([(((Int.toNat kind) : Nat) : Int)] : List Int))))), (7, .int .i64 3), (31, .bool (decide (3 ≥ ((b.length : Nat) : Int))))] w32 (by kernel_rfl) (.cons o36 .nil) ?_
                  refine GoS.cond (decide (3 ≥ ((b.length : Nat) : Int))) [.code (csub (cd Try.f13) [1,1,1,0,1,0,0,1,0,0,0,1,0]), .code (csub (cd Try.f13) [1,1,1,0,1,0,0,1,0,0,1]), .inBlock 1, .code (csub (cd Try.f13) [1,1,1,0,1,0,0,1,1]), .inLoop (csub (cd Try.f13) [1,1,1,0,1,0,0]), .inBlock 0, .code (csub (cd Try.f13) [1,1,1,1])] [.code (csub (cd Try.f13) [1,1,1,0,1,0,0,1,0,0,0,1,1]), .code (csub (cd Try.f13) [1,1,1,0,1,0,0,1,0,0,1]), .inBlock 1, .code (csub (cd Try.f13) [1,1,1,0,1,0,0,1,1]), .inLoop (csub (cd Try.f13) [1,1,1,0,1,0,0]), .inBlock 0, .code (csub (cd Try.f13) [1,1,1,1])] (by kernel_rfl) (fun h37 => ?_) (fun h37 => ?_)
                  ·
                    have h37p : 3 ≥ ((b.length : Nat) : Int) := of_decide_eq_true h37
                    refine GoS.run [4, 5] [.n, .n, .n, .n, .n] _ [.code (csub (cd Try.f13) [1,1,1,0,1,0,0,1,0,0,0,1,0,1]), .code (csub (cd Try.f13) [1,1,1,0,1,0,0,1,0,0,1]), .inBlock 1, .code (csub (cd Try.f13) [1,1,1,0,1,0,0,1,1]), .inLoop (csub (cd Try.f13) [1,1,1,0,1,0,0]), .inBlock 0, .code (csub (cd Try.f13) [1,1,1,1])] [(4, .string (sb ([]))), (5, .int .i64 2)] w32 (by kernel_rfl) .nil ?_
                    refine GoS.ret (fn := Try.f13) (v := (.tuple #[.string (sb ([])), .int .i64 2])) Try.func13 (by kernel_rfl) ?_
                    rw [hR]
                    have hk : isKind kind := ⟨by omega, by omega⟩
                    have hw3 := hwant.2.2.2 (by omega) (by omega)
                    have hh : headE (wantP kind) b = 2 := head_short (k := 3) (upto_succ (upto_succ (upto_succ upto0 (u8_of_bl (n := 103) (by first | decide | omega) (by omega))) (u8_of_bl (n := 108) (by first | decide | omega) (by omega))) (u8_of_bl (n := 115) (by first | decide | omega) (by omega))) (by simp [wantP]) (by omega)
                    obtain ⟨e1, e2⟩ := open_err (openH hk hh (by decide)) (by decide)
                    exact ⟨ret_str2 e1.symm e2.symm, hM34⟩
                  ·
                    have h37p : ¬ (3 ≥ ((b.length : Nat) : Int)) := of_decide_eq_false h37
                    refine GoS.run [0, 1, 6, 7] [.n] _ [.code (csub (cd Try.f13) [1,1,1,0,1,0,0,1,0,0,1]), .inBlock 1, .code (csub (cd Try.f13) [1,1,1,0,1,0,0,1,1]), .inLoop (csub (cd Try.f13) [1,1,1,0,1,0,0]), .inBlock 0, .code (csub (cd Try.f13) [1,1,1,1])] [(0, .int .i64 kind), (1, .string (sb b)), (6, .string (sb (([103, 108, 115] : List UInt8) ++ (bytesOf ([(((Int.toNat kind) : Nat) : Int)] : List Int))))), (7, .int .i64 3)] w32 (by kernel_rfl) .nil ?_
                    refine GoS.run [0, 1, 6, 7] [.n] _ [.code (csub (cd Try.f13) [1,1,1,0,1,0,0,1,0,0,1,0]), .code (csub (cd Try.f13) [1,1,1,0,1,0,0,1,0,0,1,1]), .inBlock 1, .code (csub (cd Try.f13) [1,1,1,0,1,0,0,1,1]), .inLoop (csub (cd Try.f13) [1,1,1,0,1,0,0]), .inBlock 0, .code (csub (cd Try.f13) [1,1,1,1])] [(0, .int .i64 kind), (1, .string (sb b)), (6, .string (sb (([103, 108, 115] : List UInt8) ++ (bytesOf ([(((Int.toNat kind) : Nat) : Int)] : List Int))))), (7, .int .i64 3)] w32 (by kernel_rfl) .nil ?_
                    have hb38 := bl_bd b 3
                    have hb39 := bl_bd (([103, 108, 115] : List UInt8) ++ (bytesOf ([(((Int.toNat kind) : Nat) : Int)] : List Int))) 3
                    refine GoS.drawC (fun W_ => Kept [] w32 W_) 9 (by kernel_rfl) [0, 1, 6, 7, 38] [.u (.string (sb b)) w32, .u (.int .i64 3) w32, .h (.int .u8 (bl b 3)), .u (.string (sb (([103, 108, 115] : List UInt8) ++ (bytesOf ([(((Int.toNat kind) : Nat) : Int)] : List Int))))) w32, .u (.int .i64 3) w32, .h (.int .u8 (bl (([103, 108, 115] : List UInt8) ++ (bytesOf ([(((Int.toNat kind) : Nat) : Int)] : List Int))) 3)), .u (.bool ((bl b 3) != (bl (([103, 108, 115] : List UInt8) ++ (bytesOf ([(((Int.toNat kind) : Nat) : Int)] : List Int))) 3))) w32] (fun W_ => [(Instr.index 9 (.string (sb b)) (.int .i64 3)).run Try.prog W_ = .ok (.int .u8 (bl b 3)) W_, (Instr.index 9 (.string (sb (([103, 108, 115] : List UInt8) ++ (bytesOf ([(((Int.toNat kind) : Nat) : Int)] : List Int))))) (.int .i64 3)).run Try.prog W_ = .ok (.int .u8 (bl (([103, 108, 115] : List UInt8) ++ (bytesOf ([(((Int.toNat kind) : Nat) : Int)] : List Int))) 3)) W_]) [(.string (sb b), .string (sb b)), (.int .i64 3, .int .i64 3), (.string (sb (([103, 108, 115] : List UInt8) ++ (bytesOf ([(((Int.toNat kind) : Nat) : Int)] : List Int)))), .string (sb (([103, 108, 115] : List UInt8) ++ (bytesOf ([(((Int.toNat kind) : Nat) : Int)] : List Int))))), (.int .i64 3, .int .i64 3), (.bool ((bl b 3) != (bl (([103, 108, 115] : List UInt8) ++ (bytesOf ([(((Int.toNat kind) : Nat) : Int)] : List Int))) 3)), .bool ((bl b 3) != (bl (([103, 108, 115] : List UInt8) ++ (bytesOf ([(((Int.toNat kind) : Nat) : Int)] : List Int))) 3)))] [(0, .int .i64 kind), (1, .string (sb b)), (6, .string (sb (([103, 108, 115] : List UInt8) ++ (bytesOf ([(((Int.toNat kind) : Nat) : Int)] : List Int))))), (7, .int .i64 3), (38, .bool ((bl b 3) != (bl (([103, 108, 115] : List UInt8) ++ (bytesOf ([(((Int.toNat kind) : Nat) : Int)] : List Int))) 3)))] (by kernel_rfl) (by kernel_rfl) ([(38, .bool ((bl b 3) != (bl (([103, 108, 115] : List UInt8) ++ (bytesOf ([(((Int.toNat kind) : Nat) : Int)] : List Int))) 3))), (37, .int .u8 (bl (([103, 108, 115] : List UInt8) ++ (bytesOf ([(((Int.toNat kind) : Nat) : Int)] : List Int))) 3)), (36, .int .i64 3), (35, .string (sb (([103, 108, 115] : List UInt8) ++ (bytesOf ([(((Int.toNat kind) : Nat) : Int)] : List Int))))), (34, .int .u8 (bl b 3)), (33, .int .i64 3), (32, .string (sb b))] ++ [(0, .int .i64 kind), (1, .string (sb b)), (6, .string (sb (([103, 108, 115] : List UInt8) ++ (bytesOf ([(((Int.toNat kind) : Nat) : Int)] : List Int))))), (7, .int .i64 3)]) (fun W_ => by kernel_rfl) (by kernel_rfl) (.cons rfl (.cons rfl (.cons rfl (.cons rfl (.cons rfl Obs.nil))))) (Kept.drewN _ _ 1) (fun W_ hW_ => (.cons (f_index 3 (by kernel_rfl) (by omega) (by first | omega | (simp [bytesOf_len']; done) | (simp [bytesOf_len'] <;> omega))) (.cons (f_index 3 (by kernel_rfl) (by omega) (by first | omega | (simp [bytesOf_len']; done) | (simp [bytesOf_len'] <;> omega))) Obs.nil))) (fun w40 hw41 => ?_)
                    have hM42 := hM34.ext hw41
                    refine GoS.cond ((bl b 3) != (bl (([103, 108, 115] : List UInt8) ++ (bytesOf ([(((Int.toNat kind) : Nat) : Int)] : List Int))) 3)) [.code (csub (cd Try.f13) [1,1,1,0,1,0,0,1,0,0,1,1,0]), .inBlock 1, .code (csub (cd Try.f13) [1,1,1,0,1,0,0,1,1]), .inLoop (csub (cd Try.f13) [1,1,1,0,1,0,0]), .inBlock 0, .code (csub (cd Try.f13) [1,1,1,1])] [.code (csub (cd Try.f13) [1,1,1,0,1,0,0,1,0,0,1,1,1]), .inBlock 1, .code (csub (cd Try.f13) [1,1,1,0,1,0,0,1,1]), .inLoop (csub (cd Try.f13) [1,1,1,0,1,0,0]), .inBlock 0, .code (csub (cd Try.f13) [1,1,1,1])] (by kernel_rfl) (fun h43 => ?_) (fun h43 => ?_)
                    ·
                      have h43p : ¬ ((bl b 3) = (bl (([103, 108, 115] : List UInt8) ++ (bytesOf ([(((Int.toNat kind) : Nat) : Int)] : List Int))) 3)) := bne_iff_ne.1 h43
                      refine GoS.run [4, 5] [.n, .n, .n, .n, .n] _ [.code (csub (cd Try.f13) [1,1,1,0,1,0,0,1,0,0,1,1,0,1]), .inBlock 1, .code (csub (cd Try.f13) [1,1,1,0,1,0,0,1,1]), .inLoop (csub (cd Try.f13) [1,1,1,0,1,0,0]), .inBlock 0, .code (csub (cd Try.f13) [1,1,1,1])] [(4, .string (sb ([]))), (5, .int .i64 3)] w40 (by kernel_rfl) .nil ?_
                      refine GoS.ret (fn := Try.f13) (v := (.tuple #[.string (sb ([])), .int .i64 3])) Try.func13 (by kernel_rfl) ?_
                      rw [hR]
                      have hk : isKind kind := ⟨by omega, by omega⟩
                      have hw3 := hwant.2.2.2 (by omega) (by omega)
                      have hh : headE (wantP kind) b = 3 := head_form (k := 3) (upto_succ (upto_succ (upto_succ upto0 (u8_of_bl (n := 103) (by first | decide | omega) (by omega))) (u8_of_bl (n := 108) (by first | decide | omega) (by omega))) (u8_of_bl (n := 115) (by first | decide | omega) (by omega))) (by simp [wantP]) (by omega) (fun z => by have := bl_of_u8 (n := kind.toNat) (by first | decide | omega) z; omega)
                      obtain ⟨e1, e2⟩ := open_err (openH hk hh (by decide)) (by decide)
                      exact ⟨ret_str2 e1.symm e2.symm, hM42⟩
                    ·
                      have h43p : (bl b 3) = (bl (([103, 108, 115] : List UInt8) ++ (bytesOf ([(((Int.toNat kind) : Nat) : Int)] : List Int))) 3) := p_eq h43
                      refine GoS.run [0, 1, 6, 7] [.n] _ [.inBlock 1, .code (csub (cd Try.f13) [1,1,1,0,1,0,0,1,1]), .inLoop (csub (cd Try.f13) [1,1,1,0,1,0,0]), .inBlock 0, .code (csub (cd Try.f13) [1,1,1,1])] [(0, .int .i64 kind), (1, .string (sb b)), (6, .string (sb (([103, 108, 115] : List UInt8) ++ (bytesOf ([(((Int.toNat kind) : Nat) : Int)] : List Int))))), (7, .int .i64 3)] w40 (by kernel_rfl) .nil ?_
                      have o44 : (Instr.sliceAt 9 (.string (sb b)) (some (.int .i64 4)) none none).run Try.prog w40 = .ok (.string (sb (List.drop 4 b))) w40 := f_slice_lo 4 (by kernel_rfl) (by omega) (by first | omega | (simp [bytesOf_len']; done) | (simp [bytesOf_len'] <;> omega))
                      refine GoS.run [0, 1, 41] [.n, .n, .n, .n, .n, .n, .n, .n, .n, .n, .n, .n, .n, .n, .n, .n, .n, .n, .h (.string (sb (List.drop 4 b)))] _ [.inRegion (cops (csub (cd Try.f13) [1,1,1,1,0])) [2,3,4,5,6,7,8,9], .code (csub (cd Try.f13) [1,1,1,1,1])] [(0, .int .i64 kind), (1, .string (sb b)), (41, .string (sb (List.drop 4 b)))] w40 (by kernel_rfl) (.cons o44 .nil) ?_
                      refine GoS.call [0, 1] 20 #[.string (sb (List.drop 4 b))] (some 42) [.inRegion (cops (csub (cd Try.f13) [1,1,1,1,0])) [3,4,5,6,7,8,9], .code (csub (cd Try.f13) [1,1,1,1,1])] [(0, .int .i64 kind), (1, .string (sb b))] (by kernel_rfl) (rreadblock_c (List.drop 4 b) (by (rw [List.length_drop]; omega)) w40) ?_
                      rintro _ w45 ⟨rfl, m46⟩
                      refine ⟨_, rfl, ?_⟩
                      have hM47 := Mem.join hM42 m46
                      have hn48 := blkN_le (List.drop 4 b)
                      have hn49 := blkS_len (List.drop 4 b)
                      refine GoS.run [0, 1, 8, 9, 10, 47] [.n, .n, .n, .n, .n, .n, .n, .n, .n, .n, .n, .n, .n, .n] _ [.code (csub (cd Try.f13) [1,1,1,1,1,0,1]), .code (csub (cd Try.f13) [1,1,1,1,1,1])] [(0, .int .i64 kind), (1, .string (sb b)), (8, .string (sb (blkS (List.drop 4 b)))), (9, .int .i64 (((blkN (List.drop 4 b)) : Nat) : Int)), (10, .int .i64 (blkE (List.drop 4 b))), (47, .bool ((blkE (List.drop 4 b)) != 0))] w45 (by kernel_rfl) .nil ?_
                      refine GoS.cond ((blkE (List.drop 4 b)) != 0) [.code (csub (cd Try.f13) [1,1,1,1,1,0,1,0]), .code (csub (cd Try.f13) [1,1,1,1,1,1])] [.code (csub (cd Try.f13) [1,1,1,1,1,0,1,1]), .code (csub (cd Try.f13) [1,1,1,1,1,1])] (by kernel_rfl) (fun h50 => ?_) (fun h50 => ?_)
                      ·
                        have h50p : ¬ ((blkE (List.drop 4 b)) = 0) := bne_iff_ne.1 h50
                        refine GoS.run [4, 5] [.n, .n, .n, .n, .n, .n] _ [.code (csub (cd Try.f13) [1,1,1,1,1,0,1,0,1]), .code (csub (cd Try.f13) [1,1,1,1,1,1])] [(4, .string (sb ([]))), (5, .int .i64 (blkE (List.drop 4 b)))] w45 (by kernel_rfl) .nil ?_
                        refine GoS.ret (fn := Try.f13) (v := (.tuple #[.string (sb ([])), .int .i64 (blkE (List.drop 4 b))])) Try.func13 (by kernel_rfl) ?_
                        rw [hR]
                        have hk : isKind kind := ⟨by omega, by omega⟩
                        have hw3 := hwant.2.2.2 (by omega) (by omega)
                        have hh : headE (wantP kind) b = 0 := head_good (ws := wantP kind) (show ∀ j, j < 4 → b.getD j 0 = (wantP kind).getD j 0 from (upto_succ (upto_succ (upto_succ (upto_succ upto0 (u8_of_bl (n := 103) (by first | decide | omega) (by omega))) (u8_of_bl (n := 108) (by first | decide | omega) (by omega))) (u8_of_bl (n := 115) (by first | decide | omega) (by omega))) (u8_of_bl (n := kind.toNat) (by first | decide | omega) (by omega)))) (by simp [wantP]; omega)
                        obtain ⟨e1, e2⟩ := open_err (openB hk hh (bne_iff_ne.1 h50)) (bne_iff_ne.1 h50)
                        exact ⟨ret_str2 e1.symm e2.symm, hM47⟩
                      ·
                        have h50p : (blkE (List.drop 4 b)) = 0 := p_eq h50
                        refine GoS.run [0, 1, 8, 9] [.n] _ [.code (csub (cd Try.f13) [1,1,1,1,1,1])] [(0, .int .i64 kind), (1, .string (sb b)), (8, .string (sb (blkS (List.drop 4 b)))), (9, .int .i64 (((blkN (List.drop 4 b)) : Nat) : Int))] w45 (by kernel_rfl) .nil ?_
                        have o51 : (Builtin.len_ #[9] 3 #[.string (sb b)]).run Try.prog w45 = .ok (.int .i64 ((b.length : Nat) : Int)) w45 := f_len (by kernel_rfl)
                        have o52 : (binOp .add 3 (.int .i64 8) (.int .i64 (((blkN (List.drop 4 b)) : Nat) : Int))).run Try.prog w45 = .ok (.int .i64 ((((blkN (List.drop 4 b)) + 8) : Nat) : Int)) w45 := f_add (by rw [show 8 + (((blkN (List.drop 4 b)) : Nat) : Int) = ((((blkN (List.drop 4 b)) + 8) : Nat) : Int) by omega]; exact IntWalk.i64_in _ (by omega))
                        refine GoS.run [0, 1, 8, 9, 53] [.n, .n, .n, .n, .h (.int .i64 ((b.length : Nat) : Int)), .n, .h (.int .i64 ((((blkN (List.drop 4 b)) + 8) : Nat) : Int)), .n, .n] _ [.code (csub (cd Try.f13) [1,1,1,1,1,1,0,1]), .code (csub (cd Try.f13) [1,1,1,1,1,1,1])] [(0, .int .i64 kind), (1, .string (sb b)), (8, .string (sb (blkS (List.drop 4 b)))), (9, .int .i64 (((blkN (List.drop 4 b)) : Nat) : Int)), (53, .bool (decide (((b.length : Nat) : Int) < ((((blkN (List.drop 4 b)) + 8) : Nat) : Int))))] w45 (by kernel_rfl) (.cons o51 (.cons o52 .nil)) ?_
                        refine GoS.cond (decide (((b.length : Nat) : Int) < ((((blkN (List.drop 4 b)) + 8) : Nat) : Int))) [.code (csub (cd Try.f13) [1,1,1,1,1,1,0,1,0]), .code (csub (cd Try.f13) [1,1,1,1,1,1,1])] [.code (csub (cd Try.f13) [1,1,1,1,1,1,0,1,1]), .code (csub (cd Try.f13) [1,1,1,1,1,1,1])] (by kernel_rfl) (fun h53 => ?_) (fun h53 => ?_)
                        ·
                          have h53p : ((b.length : Nat) : Int) < ((((blkN (List.drop 4 b)) + 8) : Nat) : Int) := of_decide_eq_true h53
                          refine GoS.run [4, 5] [.n, .n, .n, .n, .n] _ [.code (csub (cd Try.f13) [1,1,1,1,1,1,0,1,0,1]), .code (csub (cd Try.f13) [1,1,1,1,1,1,1])] [(4, .string (sb ([]))), (5, .int .i64 2)] w45 (by kernel_rfl) .nil ?_
                          refine GoS.ret (fn := Try.f13) (v := (.tuple #[.string (sb ([])), .int .i64 2])) Try.func13 (by kernel_rfl) ?_
                          rw [hR]
                          have hk : isKind kind := ⟨by omega, by omega⟩
                          have hw3 := hwant.2.2.2 (by omega) (by omega)
                          have hh : headE (wantP kind) b = 0 := head_good (ws := wantP kind) (show ∀ j, j < 4 → b.getD j 0 = (wantP kind).getD j 0 from (upto_succ (upto_succ (upto_succ (upto_succ upto0 (u8_of_bl (n := 103) (by first | decide | omega) (by omega))) (u8_of_bl (n := 108) (by first | decide | omega) (by omega))) (u8_of_bl (n := 115) (by first | decide | omega) (by omega))) (u8_of_bl (n := kind.toNat) (by first | decide | omega) (by omega)))) (by simp [wantP]; omega)
                          have ho := openR hk hh (p_eq h50)
                          have hn := blkN_le (List.drop 4 b)
                          have hrl : (blkR (List.drop 4 b)).length = b.length - 4 - blkN (List.drop 4 b) := by rw [blkR, List.length_drop, List.length_drop]
                          rw [List.length_drop] at hn
                          rw [if_pos (by omega)] at ho
                          obtain ⟨e1, e2⟩ := open_err ho (by decide)
                          exact ⟨ret_str2 e1.symm e2.symm, hM47⟩
                        ·
                          have h53p : ¬ (((b.length : Nat) : Int) < ((((blkN (List.drop 4 b)) + 8) : Nat) : Int)) := of_decide_eq_false h53
                          refine GoS.run [0, 1, 8, 9] [.n] _ [.code (csub (cd Try.f13) [1,1,1,1,1,1,1])] [(0, .int .i64 kind), (1, .string (sb b)), (8, .string (sb (blkS (List.drop 4 b)))), (9, .int .i64 (((blkN (List.drop 4 b)) : Nat) : Int))] w45 (by kernel_rfl) .nil ?_
                          have o54 : (Builtin.len_ #[9] 3 #[.string (sb b)]).run Try.prog w45 = .ok (.int .i64 ((b.length : Nat) : Int)) w45 := f_len (by kernel_rfl)
                          have o55 : (binOp .add 3 (.int .i64 8) (.int .i64 (((blkN (List.drop 4 b)) : Nat) : Int))).run Try.prog w45 = .ok (.int .i64 ((((blkN (List.drop 4 b)) + 8) : Nat) : Int)) w45 := f_add (by rw [show 8 + (((blkN (List.drop 4 b)) : Nat) : Int) = ((((blkN (List.drop 4 b)) + 8) : Nat) : Int) by omega]; exact IntWalk.i64_in _ (by omega))
                          refine GoS.run [0, 1, 8, 58] [.n, .n, .n, .n, .h (.int .i64 ((b.length : Nat) : Int)), .n, .h (.int .i64 ((((blkN (List.drop 4 b)) + 8) : Nat) : Int)), .n, .n] _ [.code (csub (cd Try.f13) [1,1,1,1,1,1,1,0,1]), .code (csub (cd Try.f13) [1,1,1,1,1,1,1,1])] [(0, .int .i64 kind), (1, .string (sb b)), (8, .string (sb (blkS (List.drop 4 b)))), (58, .bool (decide (((b.length : Nat) : Int) > ((((blkN (List.drop 4 b)) + 8) : Nat) : Int))))] w45 (by kernel_rfl) (.cons o54 (.cons o55 .nil)) ?_
                          refine GoS.cond (decide (((b.length : Nat) : Int) > ((((blkN (List.drop 4 b)) + 8) : Nat) : Int))) [.code (csub (cd Try.f13) [1,1,1,1,1,1,1,0,1,0]), .code (csub (cd Try.f13) [1,1,1,1,1,1,1,1])] [.code (csub (cd Try.f13) [1,1,1,1,1,1,1,0,1,1]), .code (csub (cd Try.f13) [1,1,1,1,1,1,1,1])] (by kernel_rfl) (fun h56 => ?_) (fun h56 => ?_)
                          ·
                            have h56p : ((b.length : Nat) : Int) > ((((blkN (List.drop 4 b)) + 8) : Nat) : Int) := of_decide_eq_true h56
                            refine GoS.run [4, 5] [.n, .n, .n, .n, .n] _ [.code (csub (cd Try.f13) [1,1,1,1,1,1,1,0,1,0,1]), .code (csub (cd Try.f13) [1,1,1,1,1,1,1,1])] [(4, .string (sb ([]))), (5, .int .i64 5)] w45 (by kernel_rfl) .nil ?_
                            refine GoS.ret (fn := Try.f13) (v := (.tuple #[.string (sb ([])), .int .i64 5])) Try.func13 (by kernel_rfl) ?_
                            rw [hR]
                            have hk : isKind kind := ⟨by omega, by omega⟩
                            have hw3 := hwant.2.2.2 (by omega) (by omega)
                            have hh : headE (wantP kind) b = 0 := head_good (ws := wantP kind) (show ∀ j, j < 4 → b.getD j 0 = (wantP kind).getD j 0 from (upto_succ (upto_succ (upto_succ (upto_succ upto0 (u8_of_bl (n := 103) (by first | decide | omega) (by omega))) (u8_of_bl (n := 108) (by first | decide | omega) (by omega))) (u8_of_bl (n := 115) (by first | decide | omega) (by omega))) (u8_of_bl (n := kind.toNat) (by first | decide | omega) (by omega)))) (by simp [wantP]; omega)
                            have ho := openR hk hh (p_eq h50)
                            have hn := blkN_le (List.drop 4 b)
                            have hrl : (blkR (List.drop 4 b)).length = b.length - 4 - blkN (List.drop 4 b) := by rw [blkR, List.length_drop, List.length_drop]
                            rw [List.length_drop] at hn
                            rw [if_neg (by omega), if_pos (by omega)] at ho
                            obtain ⟨e1, e2⟩ := open_err ho (by decide)
                            exact ⟨ret_str2 e1.symm e2.symm, hM47⟩
                          ·
                            have h56p : ¬ (((b.length : Nat) : Int) > ((((blkN (List.drop 4 b)) + 8) : Nat) : Int)) := of_decide_eq_false h56
                            refine GoS.run [0, 1, 8] [.n] _ [.code (csub (cd Try.f13) [1,1,1,1,1,1,1,1])] [(0, .int .i64 kind), (1, .string (sb b)), (8, .string (sb (blkS (List.drop 4 b))))] w45 (by kernel_rfl) .nil ?_
                            refine GoS.run [1, 8, 60, 61] [.n, .n, .n, .n] _ [.inRegion (cops (csub (cd Try.f13) [1,1,1,1,1,1,1,1,0])) [2,3,4,5,6,7], .code (csub (cd Try.f13) [1,1,1,1,1,1,1,1,1])] [(1, .string (sb b)), (8, .string (sb (blkS (List.drop 4 b)))), (60, .int .i64 kind), (61, .string (sb (blkS (List.drop 4 b))))] w45 (by kernel_rfl) .nil ?_
                            refine GoS.call [1, 8] 8 #[.int .i64 kind, .string (sb (blkS (List.drop 4 b)))] (some 62) [.inRegion (cops (csub (cd Try.f13) [1,1,1,1,1,1,1,1,0])) [3,4,5,6,7], .code (csub (cd Try.f13) [1,1,1,1,1,1,1,1,1])] [(1, .string (sb b)), (8, .string (sb (blkS (List.drop 4 b))))] (by kernel_rfl) (rseal_c kind (blkS (List.drop 4 b)) (by (have q1 := blkS_len (List.drop 4 b); have q2 := blkN_le (List.drop 4 b); rw [List.length_drop] at q2; omega)) w45) ?_
                            rintro _ w57 ⟨rfl, m58⟩
                            refine ⟨_, rfl, ?_⟩
                            have hM59 := Mem.join hM47 m58
                            have hl60 := sealT_len kind (blkS (List.drop 4 b))
                            have o61 : (binOp .neq 9 (.string (sb (sealT kind (blkS (List.drop 4 b))))) (.string (sb b))).run Try.prog w57 = .ok (.bool (!(decide ((sealT kind (blkS (List.drop 4 b))) = b)))) w57 := f_strneq
                            refine GoS.run [8, 67] [.n, .n, .n, .n, .n, .n, .n, .n, .n, .n, .n, .h (.bool (!(decide ((sealT kind (blkS (List.drop 4 b))) = b)))), .n] _ [.code (csub (cd Try.f13) [1,1,1,1,1,1,1,1,1,0,1]), .code (csub (cd Try.f13) [1,1,1,1,1,1,1,1,1,1])] [(8, .string (sb (blkS (List.drop 4 b)))), (67, .bool (!(decide ((sealT kind (blkS (List.drop 4 b))) = b))))] w57 (by kernel_rfl) (.cons o61 .nil) ?_
                            refine GoS.cond (!(decide ((sealT kind (blkS (List.drop 4 b))) = b))) [.code (csub (cd Try.f13) [1,1,1,1,1,1,1,1,1,0,1,0]), .code (csub (cd Try.f13) [1,1,1,1,1,1,1,1,1,1])] [.code (csub (cd Try.f13) [1,1,1,1,1,1,1,1,1,0,1,1]), .code (csub (cd Try.f13) [1,1,1,1,1,1,1,1,1,1])] (by kernel_rfl) (fun h62 => ?_) (fun h62 => ?_)
                            ·
                              have h62p : ¬ ((sealT kind (blkS (List.drop 4 b))) = b) := of_decide_eq_false (p_nf h62)
                              refine GoS.run [4, 5] [.n, .n, .n, .n, .n] _ [.code (csub (cd Try.f13) [1,1,1,1,1,1,1,1,1,0,1,0,1]), .code (csub (cd Try.f13) [1,1,1,1,1,1,1,1,1,1])] [(4, .string (sb ([]))), (5, .int .i64 6)] w57 (by kernel_rfl) .nil ?_
                              refine GoS.ret (fn := Try.f13) (v := (.tuple #[.string (sb ([])), .int .i64 6])) Try.func13 (by kernel_rfl) ?_
                              rw [hR]
                              have hk : isKind kind := ⟨by omega, by omega⟩
                              have hw3 := hwant.2.2.2 (by omega) (by omega)
                              have hh : headE (wantP kind) b = 0 := head_good (ws := wantP kind) (show ∀ j, j < 4 → b.getD j 0 = (wantP kind).getD j 0 from (upto_succ (upto_succ (upto_succ (upto_succ upto0 (u8_of_bl (n := 103) (by first | decide | omega) (by omega))) (u8_of_bl (n := 108) (by first | decide | omega) (by omega))) (u8_of_bl (n := 115) (by first | decide | omega) (by omega))) (u8_of_bl (n := kind.toNat) (by first | decide | omega) (by omega)))) (by simp [wantP]; omega)
                              have ho := openR hk hh (p_eq h50)
                              have hn := blkN_le (List.drop 4 b)
                              have hrl : (blkR (List.drop 4 b)).length = b.length - 4 - blkN (List.drop 4 b) := by rw [blkR, List.length_drop, List.length_drop]
                              rw [List.length_drop] at hn
                              rw [if_neg (by omega), if_neg (by omega), if_pos h62p] at ho
                              obtain ⟨e1, e2⟩ := open_err ho (by decide)
                              exact ⟨ret_str2 e1.symm e2.symm, hM59⟩
                            ·
                              have h62p : (sealT kind (blkS (List.drop 4 b))) = b := of_decide_eq_true (p_nt h62)
                              refine GoS.run [8] [.n] _ [.code (csub (cd Try.f13) [1,1,1,1,1,1,1,1,1,1])] [(8, .string (sb (blkS (List.drop 4 b))))] w57 (by kernel_rfl) .nil ?_
                              refine GoS.run [4, 5] [.n, .n, .n, .n, .n, .n] _ [.code (csub (cd Try.f13) [1,1,1,1,1,1,1,1,1,1,1])] [(4, .string (sb (blkS (List.drop 4 b)))), (5, .int .i64 0)] w57 (by kernel_rfl) .nil ?_
                              refine GoS.ret (fn := Try.f13) (v := (.tuple #[.string (sb (blkS (List.drop 4 b))), .int .i64 0])) Try.func13 (by kernel_rfl) ?_
                              rw [hR]
                              have hk : isKind kind := ⟨by omega, by omega⟩
                              have hw3 := hwant.2.2.2 (by omega) (by omega)
                              have hh : headE (wantP kind) b = 0 := head_good (ws := wantP kind) (show ∀ j, j < 4 → b.getD j 0 = (wantP kind).getD j 0 from (upto_succ (upto_succ (upto_succ (upto_succ upto0 (u8_of_bl (n := 103) (by first | decide | omega) (by omega))) (u8_of_bl (n := 108) (by first | decide | omega) (by omega))) (u8_of_bl (n := 115) (by first | decide | omega) (by omega))) (u8_of_bl (n := kind.toNat) (by first | decide | omega) (by omega)))) (by simp [wantP]; omega)
                              have ho := openR hk hh (p_eq h50)
                              have hn := blkN_le (List.drop 4 b)
                              have hrl : (blkR (List.drop 4 b)).length = b.length - 4 - blkN (List.drop 4 b) := by rw [blkR, List.length_drop, List.length_drop]
                              rw [List.length_drop] at hn
                              rw [if_neg (by omega), if_neg (by omega), if_neg (fun z => z h62p)] at ho
                              obtain ⟨e1, e2⟩ := open_ok ho
                              exact ⟨ret_str2 e1.symm e2.symm, hM59⟩


end Go.Proofs.Ytfbcmggdleoojaa
