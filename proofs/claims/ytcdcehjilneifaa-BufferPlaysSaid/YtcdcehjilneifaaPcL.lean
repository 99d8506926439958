/-
  The walks of sameTokens, Same of numbers, One.
-/
import Derived.Test.YtcdcehjilneifaaPcX
import Derived.Test.YtcdcehjilneifaaPcR
namespace Go.Proofs.Ytcdcehjilneifaa
open Go Go.Gw Go.UtfP Go.TokP Go.PcP Go.RowKit
set_option linter.unusedVariables false
set_option linter.unusedSimpArgs false
set_option maxRecDepth 20000

theorem eT60 : EqT Try.prog 60 := ⟨by kernel_rfl, by kernel_rfl, by kernel_rfl⟩
theorem eT79 : EqT Try.prog 79 := ⟨by kernel_rfl, by kernel_rfl, by kernel_rfl⟩

abbrev uL0 : List Nat := [1,1,0,1,0,0]
abbrev uL1 : List Nat := [1,1,1]
abbrev uL2 : List Nat := [1,1,0,1,0,0,1,1]
abbrev uL3 : List Nat := [1,1,0,1,0,0,1]
abbrev uL4 : List Nat := [1,1,0,1,0,0,1,0,0,1,0,1]
abbrev uL5 : List Nat := [1,1,0,1,0,0,1,0,0,1,0]
abbrev uL6 : List Nat := [1,1,0,1,0,0,1,0,0,1,1]
set_option maxHeartbeats 400000 in
theorem tks_L (v u : Value) (l m : List Tok) {w0 : World} (hv : Rd w0 2 v l.length (recs tokc l)) (hu : Rd w0 2 u m.length (recs tokc m)) (hlm : l.length = m.length) (R : Ending → World → Prop) (hR : R = (fun e w' => e = .returned (.bool (decide (l = m))) ∧ Dr w0 w')) : ∀ (N : Nat) (k : Nat) (w : World) (hk : k ≤ l.length) (hw : ∀ j, j < k → l.getD j (Tok.mk [] 0) = m.getD j (Tok.mk [] 0)) (hD : Dr w0 w) (hN : l.length - k < N), GoS Try.prog 37 R 26 [iC Try.f37 uL0, iL Try.f37 uL0, .inBlock 0, iC Try.f37 uL1] [(0, v), (1, u), (5, iN k)] w := by
 intro N
 induction N with
 | zero => intro k w hk hw hD hN; exact absurd hN (Nat.not_lt_zero _)
 | succ N ih =>
  intro k w hk hw hD hN
  have hlen := rd_len hv
  simp only [maxLen] at hlen
  have o1 : (Builtin.len_ #[64] 3 #[v]).run Try.prog w = .ok (iN (List.length l)) w := f_slen sT64 (hv.dr hD) 3 _
  refine GoS.run [0, 1, 5, 14] [.n, .n, .n, .n, .n, .h (iN (List.length l)), .n, .n] _ [iC Try.f37 [1,1,0,1,0,0,0,1], iC Try.f37 uL3, iL Try.f37 uL0, .inBlock 0, iC Try.f37 uL1] [(0, v), (1, u), (5, iN k), (14, .bool (decide (((k : Nat) : Int) < (((List.length l) : Nat) : Int))))] w (by kernel_rfl) (.cons o1 .nil) ?_
  refine GoS.cond (decide (((k : Nat) : Int) < (((List.length l) : Nat) : Int))) [iC Try.f37 [1,1,0,1,0,0,0,1,0], iC Try.f37 uL3, iL Try.f37 uL0, .inBlock 0, iC Try.f37 uL1] [iC Try.f37 [1,1,0,1,0,0,0,1,1], iC Try.f37 uL3, iL Try.f37 uL0, .inBlock 0, iC Try.f37 uL1] (by kernel_rfl) (fun h2 => ?_) (fun h2 => ?_)
  ·
   have h2p : ((k : Nat) : Int) < (((List.length l) : Nat) : Int) := of_decide_eq_true h2
   refine GoS.run [0, 1, 5] [.n] _ [iC Try.f37 uL3, iL Try.f37 uL0, .inBlock 0, iC Try.f37 uL1] [(0, v), (1, u), (5, iN k)] w (by kernel_rfl) .nil ?_
   refine GoS.run [0, 1, 5] [.n, .n, .n] _ [iC Try.f37 [1,1,0,1,0,0,1,0,0,0], iC Try.f37 [1,1,0,1,0,0,1,0,0,1], .inBlock 1, iC Try.f37 uL2, iL Try.f37 uL0, .inBlock 0, iC Try.f37 uL1] [(0, v), (1, u), (5, iN k)] w (by kernel_rfl) .nil ?_
   obtain ⟨p3, hp4, hq5⟩ := rd_at (i := ((k : Nat) : Int)) sT64 (hv.dr hD) k (by omega) (by first | omega | (dsimp only; omega))
   obtain ⟨p6, hp7, hq8⟩ := rd_at (i := ((k : Nat) : Int)) sT64 (hu.dr hD) k (by omega) (by first | omega | (dsimp only; omega))
   refine GoS.drawC (fun W_ => Dr w W_) 6 (by kernel_rfl) [0, 1, 5, 25] [.u (v) w, .u (iN k) w, .h (.pointer (some p3)), .h (.agg #[sS ((List.getD l k (Tok.mk [] 0)).t), .int .i64 ((List.getD l k (Tok.mk [] 0)).a)]), .u (u) w, .u (iN k) w, .h (.pointer (some p6)), .h (.agg #[sS ((List.getD m k (Tok.mk [] 0)).t), .int .i64 ((List.getD m k (Tok.mk [] 0)).a)]), .h (.bool (!(decide (List.getD l k (Tok.mk [] 0) = List.getD m k (Tok.mk [] 0)))))] (fun W_ => [(Instr.indexAt 64 (v) (iN k)).run Try.prog W_ = .ok (.pointer (some p3)) W_, (Instr.loadAt 79 (.pointer (some p3))).run Try.prog W_ = .ok (.agg #[sS ((List.getD l k (Tok.mk [] 0)).t), .int .i64 ((List.getD l k (Tok.mk [] 0)).a)]) W_, (Instr.indexAt 64 (u) (iN k)).run Try.prog W_ = .ok (.pointer (some p6)) W_, (Instr.loadAt 79 (.pointer (some p6))).run Try.prog W_ = .ok (.agg #[sS ((List.getD m k (Tok.mk [] 0)).t), .int .i64 ((List.getD m k (Tok.mk [] 0)).a)]) W_, Try.prog.eqGuardType Try.prog.depth 79 = false ∧ (binOp .neq 79 (.agg #[sS ((List.getD l k (Tok.mk [] 0)).t), .int .i64 ((List.getD l k (Tok.mk [] 0)).a)]) (.agg #[sS ((List.getD m k (Tok.mk [] 0)).t), .int .i64 ((List.getD m k (Tok.mk [] 0)).a)])).run Try.prog W_ = .ok (.bool (!(decide (List.getD l k (Tok.mk [] 0) = List.getD m k (Tok.mk [] 0))))) W_]) [(v, v), (iN k, iN k), (u, u), (iN k, iN k)] [(0, v), (1, u), (5, iN k), (25, .bool (!(decide (List.getD l k (Tok.mk [] 0) = List.getD m k (Tok.mk [] 0)))))] (by kernel_rfl) (by kernel_rfl) ([(25, .bool (!(decide (List.getD l k (Tok.mk [] 0) = List.getD m k (Tok.mk [] 0))))), (24, .agg #[sS ((List.getD m k (Tok.mk [] 0)).t), .int .i64 ((List.getD m k (Tok.mk [] 0)).a)]), (23, .pointer (some p6)), (22, iN k), (21, u), (20, .agg #[sS ((List.getD l k (Tok.mk [] 0)).t), .int .i64 ((List.getD l k (Tok.mk [] 0)).a)]), (19, .pointer (some p3)), (18, iN k), (17, v)] ++ [(0, v), (1, u), (5, iN k)]) (fun W_ => by kernel_rfl) (by kernel_rfl) (.cons rfl (.cons rfl (.cons rfl (.cons rfl Obs.nil)))) ⟨1, rfl⟩ (fun W_ hW_ => (.cons (hq5 _ _) (.cons (r_loads (f := tokc) (l := l) aE79 ((hv.dr hD).dr hW_) tokc_len hp4 (by first | omega | (dsimp only; omega)) (Tok.mk [] 0)) (.cons (hq8 _ _) (.cons (r_loads (f := tokc) (l := m) aE79 ((hu.dr hD).dr hW_) tokc_len hp7 (by first | omega | (dsimp only; omega)) (Tok.mk [] 0)) (.cons (f_agneq eT79 (xs := [sS ((List.getD l k (Tok.mk [] 0)).t), .int .i64 ((List.getD l k (Tok.mk [] 0)).a)]) (ys := [sS ((List.getD m k (Tok.mk [] 0)).t), .int .i64 ((List.getD m k (Tok.mk [] 0)).a)]) (r := (((sb ((List.getD l k (Tok.mk [] 0)).t)).toList == (sb ((List.getD m k (Tok.mk [] 0)).t)).toList) && ((((List.getD l k (Tok.mk [] 0)).a) == ((List.getD m k (Tok.mk [] 0)).a)) && true))) (by kernel_rfl) ((congrArg Bool.not (tk_beq _ _)))) Obs.nil)))))) (fun w9 hw10 => ?_)
   have hD11 := hD.trans hw10
   refine GoS.cond (!(decide (List.getD l k (Tok.mk [] 0) = List.getD m k (Tok.mk [] 0)))) [iC Try.f37 uL5, .inBlock 1, iC Try.f37 uL2, iL Try.f37 uL0, .inBlock 0, iC Try.f37 uL1] [iC Try.f37 uL6, .inBlock 1, iC Try.f37 uL2, iL Try.f37 uL0, .inBlock 0, iC Try.f37 uL1] (by kernel_rfl) (fun h12 => ?_) (fun h12 => ?_)
   ·
    have h12p : ¬ (List.getD l k (Tok.mk [] 0) = List.getD m k (Tok.mk [] 0)) := of_decide_eq_false (p_nf h12)
    refine GoS.run [4] [.n, .n, .n, .n] _ [iC Try.f37 uL4, .inBlock 1, iC Try.f37 uL2, iL Try.f37 uL0, .inBlock 0, iC Try.f37 uL1] [(4, .bool false)] w9 (by kernel_rfl) .nil ?_
    refine GoS.ret (fn := Try.f37) (v := (.bool false)) Try.func37 (by kernel_rfl) ?_
    rw [hR]
    exact ⟨ret_bool (decide_eq_false (ne_getD (Tok.mk [] 0) k h12p)).symm, hD11⟩
   ·
    have h12p : List.getD l k (Tok.mk [] 0) = List.getD m k (Tok.mk [] 0) := of_decide_eq_true (p_nt h12)
    refine GoS.run [0, 1, 5] [.n] _ [.inBlock 1, iC Try.f37 uL2, iL Try.f37 uL0, .inBlock 0, iC Try.f37 uL1] [(0, v), (1, u), (5, iN k)] w9 (by kernel_rfl) .nil ?_
    have o13 : (binOp .add 3 (iN k) (.int .i64 1)).run Try.prog w9 = .ok (iN (k + 1)) w9 := f_add (by rw [show ((k : Nat) : Int) + 1 = (((k + 1) : Nat) : Int) by omega]; exact IntWalk.i64_in _ (by omega))
    refine GoS.run [0, 1, 5] [.n, .n, .n, .h (iN (k + 1)), .n, .n, .n] _ [iC Try.f37 uL0, iL Try.f37 uL0, .inBlock 0, iC Try.f37 uL1] [(0, v), (1, u), (5, iN (k + 1))] w9 (by kernel_rfl) (.cons o13 .nil) ?_
    exact ih (k + 1) _ (by omega) (fun j hj => by rcases Nat.lt_succ_iff_lt_or_eq.1 hj with h | h; exact hw j h; subst h; exact h12p) hD11 (by omega)
  ·
   have h2p : ¬ (((k : Nat) : Int) < (((List.length l) : Nat) : Int)) := of_decide_eq_false h2
   refine GoS.run [4] [.n, .n, .n, .n, .n] _ [iC Try.f37 [1,1,1,1]] [(4, .bool true)] w (by kernel_rfl) .nil ?_
   refine GoS.ret (fn := Try.f37) (v := (.bool true)) Try.func37 (by kernel_rfl) ?_
   rw [hR]
   exact ⟨ret_bool (decide_eq_true (ext_getD (Tok.mk [] 0) hlm (fun j hj => hw j (by omega)))).symm, hD⟩

set_option maxHeartbeats 400000 in
theorem tks_c (v u : Value) (l m : List Tok) (w : World) (hv : Rd w 2 v l.length (recs tokc l)) (hu : Rd w 2 u m.length (recs tokc m)) :
  Calls Try.prog 37 #[v, u] w (fun e w' => e = .returned (.bool (decide (l = m))) ∧ Dr w w') := by
 obtain ⟨R, hR⟩ : ∃ R : Ending → World → Prop, R = (fun e w' => e = .returned (.bool (decide (l = m))) ∧ Dr w w') := ⟨_, rfl⟩
 rw [← hR]
 refine GoS.enter (n := 26) Try.func37 (by kernel_rfl) rfl [(0, v), (1, u)] (by kernel_rfl) (by kernel_rfl) ?_
 have hD0 := Dr.refl w
 have o1 : (Builtin.len_ #[64] 3 #[v]).run Try.prog w = .ok (iN (List.length l)) w := f_slen sT64 (hv.dr hD0) 3 _
 have o2 : (Builtin.len_ #[64] 3 #[u]).run Try.prog w = .ok (iN (List.length m)) w := f_slen sT64 (hu.dr hD0) 3 _
 refine GoS.run [0, 1, 10] [.n, .n, .n, .n, .n, .n, .n, .n, .h (iN (List.length l)), .n, .h (iN (List.length m)), .n, .n] _ [iC Try.f37 [1,0,1], iC Try.f37 [1,1]] [(0, v), (1, u), (10, .bool ((((List.length l) : Nat) : Int) != (((List.length m) : Nat) : Int)))] w (by kernel_rfl) (.cons o1 (.cons o2 .nil)) ?_
 refine GoS.cond ((((List.length l) : Nat) : Int) != (((List.length m) : Nat) : Int)) [iC Try.f37 [1,0,1,0], iC Try.f37 [1,1]] [iC Try.f37 [1,0,1,1], iC Try.f37 [1,1]] (by kernel_rfl) (fun h3 => ?_) (fun h3 => ?_)
 ·
  have h3p : ¬ ((((List.length l) : Nat) : Int) = (((List.length m) : Nat) : Int)) := bne_iff_ne.1 h3
  refine GoS.run [4] [.n, .n, .n, .n] _ [iC Try.f37 [1,0,1,0,1], iC Try.f37 [1,1]] [(4, .bool false)] w (by kernel_rfl) .nil ?_
  refine GoS.ret (fn := Try.f37) (v := (.bool false)) Try.func37 (by kernel_rfl) ?_
  rw [hR]
  exact ⟨ret_bool (decide_eq_false (len_ne (by omega))).symm, hD0⟩
 ·
  have h3p : (((List.length l) : Nat) : Int) = (((List.length m) : Nat) : Int) := p_eq h3
  refine GoS.run [0, 1] [.n] _ [iC Try.f37 [1,1]] [(0, v), (1, u)] w (by kernel_rfl) .nil ?_
  refine GoS.run [0, 1, 5] [.n, .n, .n, .n, .n, .n, .n] _ [iC Try.f37 uL0, iL Try.f37 uL0, .inBlock 0, iC Try.f37 uL1] [(0, v), (1, u), (5, .int .i64 0)] w (by kernel_rfl) .nil ?_
  exact tks_L v u l m hv hu (by omega) R hR (l.length + 1) 0 w (by omega) (by intro j hj; omega) hD0 (by omega)

set_option maxHeartbeats 400000 in
theorem nms_L (v u : Value) (l m : List Nm) {w0 : World} (hv : Rd w0 2 v l.length (recs nmC l)) (hu : Rd w0 2 u m.length (recs nmC m)) (hlm : l.length = m.length) (R : Ending → World → Prop) (hR : R = (fun e w' => e = .returned (.bool (decide (l = m))) ∧ Dr w0 w')) : ∀ (N : Nat) (k : Nat) (w : World) (hk : k ≤ l.length) (hw : ∀ j, j < k → l.getD j nz = m.getD j nz) (hD : Dr w0 w) (hN : l.length - k < N), GoS Try.prog 36 R 26 [iC Try.f36 uL0, iL Try.f36 uL0, .inBlock 0, iC Try.f36 uL1] [(0, v), (1, u), (5, iN k)] w := by
 intro N
 induction N with
 | zero => intro k w hk hw hD hN; exact absurd hN (Nat.not_lt_zero _)
 | succ N ih =>
  intro k w hk hw hD hN
  have hlen := rd_len hv
  simp only [maxLen] at hlen
  have o1 : (Builtin.len_ #[23] 3 #[v]).run Try.prog w = .ok (iN (List.length l)) w := f_slen sT23 (hv.dr hD) 3 _
  refine GoS.run [0, 1, 5, 14] [.n, .n, .n, .n, .n, .h (iN (List.length l)), .n, .n] _ [iC Try.f36 [1,1,0,1,0,0,0,1], iC Try.f36 uL3, iL Try.f36 uL0, .inBlock 0, iC Try.f36 uL1] [(0, v), (1, u), (5, iN k), (14, .bool (decide (((k : Nat) : Int) < (((List.length l) : Nat) : Int))))] w (by kernel_rfl) (.cons o1 .nil) ?_
  refine GoS.cond (decide (((k : Nat) : Int) < (((List.length l) : Nat) : Int))) [iC Try.f36 [1,1,0,1,0,0,0,1,0], iC Try.f36 uL3, iL Try.f36 uL0, .inBlock 0, iC Try.f36 uL1] [iC Try.f36 [1,1,0,1,0,0,0,1,1], iC Try.f36 uL3, iL Try.f36 uL0, .inBlock 0, iC Try.f36 uL1] (by kernel_rfl) (fun h2 => ?_) (fun h2 => ?_)
  ·
   have h2p : ((k : Nat) : Int) < (((List.length l) : Nat) : Int) := of_decide_eq_true h2
   refine GoS.run [0, 1, 5] [.n] _ [iC Try.f36 uL3, iL Try.f36 uL0, .inBlock 0, iC Try.f36 uL1] [(0, v), (1, u), (5, iN k)] w (by kernel_rfl) .nil ?_
   refine GoS.run [0, 1, 5] [.n, .n, .n] _ [iC Try.f36 [1,1,0,1,0,0,1,0,0,0], iC Try.f36 [1,1,0,1,0,0,1,0,0,1], .inBlock 1, iC Try.f36 uL2, iL Try.f36 uL0, .inBlock 0, iC Try.f36 uL1] [(0, v), (1, u), (5, iN k)] w (by kernel_rfl) .nil ?_
   obtain ⟨p3, hp4, hq5⟩ := rd_at (i := ((k : Nat) : Int)) sT23 (hv.dr hD) k (by omega) (by first | omega | (dsimp only; omega))
   obtain ⟨p6, hp7, hq8⟩ := rd_at (i := ((k : Nat) : Int)) sT23 (hu.dr hD) k (by omega) (by first | omega | (dsimp only; omega))
   refine GoS.drawC (fun W_ => Dr w W_) 6 (by kernel_rfl) [0, 1, 5, 25] [.u (v) w, .u (iN k) w, .h (.pointer (some p3)), .h (.agg #[sS ((List.getD l k nz).name), .int .u64 ((List.getD l k nz).bits)]), .u (u) w, .u (iN k) w, .h (.pointer (some p6)), .h (.agg #[sS ((List.getD m k nz).name), .int .u64 ((List.getD m k nz).bits)]), .h (.bool (!(decide (List.getD l k nz = List.getD m k nz))))] (fun W_ => [(Instr.indexAt 23 (v) (iN k)).run Try.prog W_ = .ok (.pointer (some p3)) W_, (Instr.loadAt 60 (.pointer (some p3))).run Try.prog W_ = .ok (.agg #[sS ((List.getD l k nz).name), .int .u64 ((List.getD l k nz).bits)]) W_, (Instr.indexAt 23 (u) (iN k)).run Try.prog W_ = .ok (.pointer (some p6)) W_, (Instr.loadAt 60 (.pointer (some p6))).run Try.prog W_ = .ok (.agg #[sS ((List.getD m k nz).name), .int .u64 ((List.getD m k nz).bits)]) W_, Try.prog.eqGuardType Try.prog.depth 60 = false ∧ (binOp .neq 60 (.agg #[sS ((List.getD l k nz).name), .int .u64 ((List.getD l k nz).bits)]) (.agg #[sS ((List.getD m k nz).name), .int .u64 ((List.getD m k nz).bits)])).run Try.prog W_ = .ok (.bool (!(decide (List.getD l k nz = List.getD m k nz)))) W_]) [(v, v), (iN k, iN k), (u, u), (iN k, iN k)] [(0, v), (1, u), (5, iN k), (25, .bool (!(decide (List.getD l k nz = List.getD m k nz))))] (by kernel_rfl) (by kernel_rfl) ([(25, .bool (!(decide (List.getD l k nz = List.getD m k nz)))), (24, .agg #[sS ((List.getD m k nz).name), .int .u64 ((List.getD m k nz).bits)]), (23, .pointer (some p6)), (22, iN k), (21, u), (20, .agg #[sS ((List.getD l k nz).name), .int .u64 ((List.getD l k nz).bits)]), (19, .pointer (some p3)), (18, iN k), (17, v)] ++ [(0, v), (1, u), (5, iN k)]) (fun W_ => by kernel_rfl) (by kernel_rfl) (.cons rfl (.cons rfl (.cons rfl (.cons rfl Obs.nil)))) ⟨1, rfl⟩ (fun W_ hW_ => (.cons (hq5 _ _) (.cons (r_loads (f := nmC) (l := l) aE60 ((hv.dr hD).dr hW_) nmC_len hp4 (by first | omega | (dsimp only; omega)) nz) (.cons (hq8 _ _) (.cons (r_loads (f := nmC) (l := m) aE60 ((hu.dr hD).dr hW_) nmC_len hp7 (by first | omega | (dsimp only; omega)) nz) (.cons (f_agneq eT60 (xs := [sS ((List.getD l k nz).name), .int .u64 ((List.getD l k nz).bits)]) (ys := [sS ((List.getD m k nz).name), .int .u64 ((List.getD m k nz).bits)]) (r := (((sb ((List.getD l k nz).name)).toList == (sb ((List.getD m k nz).name)).toList) && ((((List.getD l k nz).bits) == ((List.getD m k nz).bits)) && true))) (by kernel_rfl) ((congrArg Bool.not (nm_beq _ _)))) Obs.nil)))))) (fun w9 hw10 => ?_)
   have hD11 := hD.trans hw10
   refine GoS.cond (!(decide (List.getD l k nz = List.getD m k nz))) [iC Try.f36 uL5, .inBlock 1, iC Try.f36 uL2, iL Try.f36 uL0, .inBlock 0, iC Try.f36 uL1] [iC Try.f36 uL6, .inBlock 1, iC Try.f36 uL2, iL Try.f36 uL0, .inBlock 0, iC Try.f36 uL1] (by kernel_rfl) (fun h12 => ?_) (fun h12 => ?_)
   ·
    have h12p : ¬ (List.getD l k nz = List.getD m k nz) := of_decide_eq_false (p_nf h12)
    refine GoS.run [4] [.n, .n, .n, .n] _ [iC Try.f36 uL4, .inBlock 1, iC Try.f36 uL2, iL Try.f36 uL0, .inBlock 0, iC Try.f36 uL1] [(4, .bool false)] w9 (by kernel_rfl) .nil ?_
    refine GoS.ret (fn := Try.f36) (v := (.bool false)) Try.func36 (by kernel_rfl) ?_
    rw [hR]
    exact ⟨ret_bool (decide_eq_false (ne_getD nz k h12p)).symm, hD11⟩
   ·
    have h12p : List.getD l k nz = List.getD m k nz := of_decide_eq_true (p_nt h12)
    refine GoS.run [0, 1, 5] [.n] _ [.inBlock 1, iC Try.f36 uL2, iL Try.f36 uL0, .inBlock 0, iC Try.f36 uL1] [(0, v), (1, u), (5, iN k)] w9 (by kernel_rfl) .nil ?_
    have o13 : (binOp .add 3 (iN k) (.int .i64 1)).run Try.prog w9 = .ok (iN (k + 1)) w9 := f_add (by rw [show ((k : Nat) : Int) + 1 = (((k + 1) : Nat) : Int) by omega]; exact IntWalk.i64_in _ (by omega))
    refine GoS.run [0, 1, 5] [.n, .n, .n, .h (iN (k + 1)), .n, .n, .n] _ [iC Try.f36 uL0, iL Try.f36 uL0, .inBlock 0, iC Try.f36 uL1] [(0, v), (1, u), (5, iN (k + 1))] w9 (by kernel_rfl) (.cons o13 .nil) ?_
    exact ih (k + 1) _ (by omega) (fun j hj => by rcases Nat.lt_succ_iff_lt_or_eq.1 hj with h | h; exact hw j h; subst h; exact h12p) hD11 (by omega)
  ·
   have h2p : ¬ (((k : Nat) : Int) < (((List.length l) : Nat) : Int)) := of_decide_eq_false h2
   refine GoS.run [4] [.n, .n, .n, .n, .n] _ [iC Try.f36 [1,1,1,1]] [(4, .bool true)] w (by kernel_rfl) .nil ?_
   refine GoS.ret (fn := Try.f36) (v := (.bool true)) Try.func36 (by kernel_rfl) ?_
   rw [hR]
   exact ⟨ret_bool (decide_eq_true (ext_getD nz hlm (fun j hj => hw j (by omega)))).symm, hD⟩

set_option maxHeartbeats 400000 in
theorem nms_c (v u : Value) (l m : List Nm) (w : World) (hv : Rd w 2 v l.length (recs nmC l)) (hu : Rd w 2 u m.length (recs nmC m)) :
  Calls Try.prog 36 #[v, u] w (fun e w' => e = .returned (.bool (decide (l = m))) ∧ Dr w w') := by
 obtain ⟨R, hR⟩ : ∃ R : Ending → World → Prop, R = (fun e w' => e = .returned (.bool (decide (l = m))) ∧ Dr w w') := ⟨_, rfl⟩
 rw [← hR]
 refine GoS.enter (n := 26) Try.func36 (by kernel_rfl) rfl [(0, v), (1, u)] (by kernel_rfl) (by kernel_rfl) ?_
 have hD0 := Dr.refl w
 have o1 : (Builtin.len_ #[23] 3 #[v]).run Try.prog w = .ok (iN (List.length l)) w := f_slen sT23 (hv.dr hD0) 3 _
 have o2 : (Builtin.len_ #[23] 3 #[u]).run Try.prog w = .ok (iN (List.length m)) w := f_slen sT23 (hu.dr hD0) 3 _
 refine GoS.run [0, 1, 10] [.n, .n, .n, .n, .n, .n, .n, .n, .h (iN (List.length l)), .n, .h (iN (List.length m)), .n, .n] _ [iC Try.f36 [1,0,1], iC Try.f36 [1,1]] [(0, v), (1, u), (10, .bool ((((List.length l) : Nat) : Int) != (((List.length m) : Nat) : Int)))] w (by kernel_rfl) (.cons o1 (.cons o2 .nil)) ?_
 refine GoS.cond ((((List.length l) : Nat) : Int) != (((List.length m) : Nat) : Int)) [iC Try.f36 [1,0,1,0], iC Try.f36 [1,1]] [iC Try.f36 [1,0,1,1], iC Try.f36 [1,1]] (by kernel_rfl) (fun h3 => ?_) (fun h3 => ?_)
 ·
  have h3p : ¬ ((((List.length l) : Nat) : Int) = (((List.length m) : Nat) : Int)) := bne_iff_ne.1 h3
  refine GoS.run [4] [.n, .n, .n, .n] _ [iC Try.f36 [1,0,1,0,1], iC Try.f36 [1,1]] [(4, .bool false)] w (by kernel_rfl) .nil ?_
  refine GoS.ret (fn := Try.f36) (v := (.bool false)) Try.func36 (by kernel_rfl) ?_
  rw [hR]
  exact ⟨ret_bool (decide_eq_false (len_ne (by omega))).symm, hD0⟩
 ·
  have h3p : (((List.length l) : Nat) : Int) = (((List.length m) : Nat) : Int) := p_eq h3
  refine GoS.run [0, 1] [.n] _ [iC Try.f36 [1,1]] [(0, v), (1, u)] w (by kernel_rfl) .nil ?_
  refine GoS.run [0, 1, 5] [.n, .n, .n, .n, .n, .n, .n] _ [iC Try.f36 uL0, iL Try.f36 uL0, .inBlock 0, iC Try.f36 uL1] [(0, v), (1, u), (5, .int .i64 0)] w (by kernel_rfl) .nil ?_
  exact nms_L v u l m hv hu (by omega) R hR (l.length + 1) 0 w (by omega) (by intro j hj; omega) hD0 (by omega)

set_option maxHeartbeats 1000000 in
theorem pone_L {w0 : World} (p q : Pc) (nv wv nu wu : Value) (hn : Rd w0 2 nv p.nums.length (recs nmC p.nums)) (Z : List WZ) (hZ : p.words = Z.map WZ.wd) (hz : Rd w0 2 wv Z.length (recs wzC Z)) (ht : ∀ z ∈ Z, Rd w0 2 z.toks z.wd.toks.length (recs tokc z.wd.toks)) (hn2 : Rd w0 2 nu q.nums.length (recs nmC q.nums)) (Y : List WZ) (hY : q.words = Y.map WZ.wd) (hy : Rd w0 2 wu Y.length (recs wzC Y)) (ht2 : ∀ z ∈ Y, Rd w0 2 z.toks z.wd.toks.length (recs tokc z.wd.toks)) (hk : p.key = q.key) (hu : p.nums = q.nums) (hl : Z.length = Y.length) (ba bb : Nat) (R : Ending → World → Prop) (hR : R = (fun e w' => e = .returned (.bool (decide (p = q))) ∧ Mem [] w0 w' [])) : ∀ (N : Nat) (i : Nat) (w : World) (hi : i ≤ Z.length) (hw : ∀ j, j < i → (Z.getD j wz).wd = (Y.getD j wz).wd) (hM : Mem [] w0 w [⟨29, 3, (obj ba), 1, [sS (p.key), nv, wv]⟩, ⟨29, 3, (obj bb), 1, [sS (q.key), nu, wu]⟩]) (hN : Z.length - i < N), GoS Try.prog 11 R 64 [iC Try.f11 uL0, iL Try.f11 uL0, .inBlock 0, iC Try.f11 uL1] [(2, pq ba), (3, pq bb), (5, iN i)] w := by
 intro N
 induction N with
 | zero => intro i w hi hw hM hN; exact absurd hN (Nat.not_lt_zero _)
 | succ N ih =>
  intro i w hi hw hM hN
  have hl1 := rd_len hz
  have hl2 := rd_len hy
  simp only [maxLen] at hl1 hl2
  have o1 : (Instr.loadAt 27 (.pointer (some (⟨ba, 2, none⟩)))).run Try.prog w = .ok (wv) w := c_load pE27 (hM.rd 0 rfl) (cel_obj ba 2) rfl
  have o2 : (Builtin.len_ #[27] 3 #[wv]).run Try.prog w = .ok (iN (List.length Z)) w := f_slen sT27 (hz.kept0 hM.kept) 3 _
  refine GoS.run [2, 3, 5, 32] [.n, .n, .n, .n, .n, .h (wv), .h (iN (List.length Z)), .n, .n] _ [iC Try.f11 [1,1,0,1,0,0,0,1], iC Try.f11 uL3, iL Try.f11 uL0, .inBlock 0, iC Try.f11 uL1] [(2, pq ba), (3, pq bb), (5, iN i), (32, .bool (decide (((i : Nat) : Int) < (((List.length Z) : Nat) : Int))))] w (by kernel_rfl) (.cons o1 (.cons o2 .nil)) ?_
  refine GoS.cond (decide (((i : Nat) : Int) < (((List.length Z) : Nat) : Int))) [iC Try.f11 [1,1,0,1,0,0,0,1,0], iC Try.f11 uL3, iL Try.f11 uL0, .inBlock 0, iC Try.f11 uL1] [iC Try.f11 [1,1,0,1,0,0,0,1,1], iC Try.f11 uL3, iL Try.f11 uL0, .inBlock 0, iC Try.f11 uL1] (by kernel_rfl) (fun h3 => ?_) (fun h3 => ?_)
  ·
   have h3p : ((i : Nat) : Int) < (((List.length Z) : Nat) : Int) := of_decide_eq_true h3
   refine GoS.run [2, 3, 5] [.n] _ [iC Try.f11 uL3, iL Try.f11 uL0, .inBlock 0, iC Try.f11 uL1] [(2, pq ba), (3, pq bb), (5, iN i)] w (by kernel_rfl) .nil ?_
   refine GoS.run [2, 3, 5] [.n, .n, .n] _ [iC Try.f11 [1,1,0,1,0,0,1,0,0,0], iC Try.f11 [1,1,0,1,0,0,1,0,0,1], .inBlock 1, iC Try.f11 uL2, iL Try.f11 uL0, .inBlock 0, iC Try.f11 uL1] [(2, pq ba), (3, pq bb), (5, iN i)] w (by kernel_rfl) .nil ?_
   rcases Bool.eq_false_or_eq_true (!(decide (((List.getD Z i wz).wd.name) = ((List.getD Y i wz).wd.name)))) with h11 | h11
   ·
    have h11p : ¬ (((List.getD Z i wz).wd.name) = ((List.getD Y i wz).wd.name)) := of_decide_eq_false (p_nf h11)
    obtain ⟨p12, hp13, hq14⟩ := rd_at (i := ((i : Nat) : Int)) sT27 (hz.kept0 hM.kept) i (by omega) (by first | omega | (dsimp only; omega))
    obtain ⟨p15, hp16, hq17⟩ := rd_at (i := ((i : Nat) : Int)) sT27 (hy.kept0 hM.kept) i (by omega) (by first | omega | (dsimp only; omega))
    refine GoS.drawC (fun W_ => Kept [] w W_) 6 (by kernel_rfl) [2, 3, 5, 63] [.u (.pointer (some (⟨ba, 2, none⟩))) w, .h (wv), .u (iN i) w, .h (.pointer (some p12)), .u (.pointer (some (Addr.add p12 0))) w, .h (sS ((List.getD Z i wz).wd.name)), .u (.pointer (some (⟨bb, 2, none⟩))) w, .h (wu), .u (iN i) w, .h (.pointer (some p15)), .u (.pointer (some (Addr.add p15 0))) w, .h (sS ((List.getD Y i wz).wd.name)), .h (.bool true), .u (.bool true) w, .u (.bool true) w] (fun W_ => [(Instr.loadAt 27 (.pointer (some (⟨ba, 2, none⟩)))).run Try.prog W_ = .ok (wv) W_, (Instr.indexAt 27 (wv) (iN i)).run Try.prog W_ = .ok (.pointer (some p12)) W_, (Instr.loadAt 9 (.pointer (some (Addr.add p12 0)))).run Try.prog W_ = .ok (sS ((List.getD Z i wz).wd.name)) W_, (Instr.loadAt 27 (.pointer (some (⟨bb, 2, none⟩)))).run Try.prog W_ = .ok (wu) W_, (Instr.indexAt 27 (wu) (iN i)).run Try.prog W_ = .ok (.pointer (some p15)) W_, (Instr.loadAt 9 (.pointer (some (Addr.add p15 0)))).run Try.prog W_ = .ok (sS ((List.getD Y i wz).wd.name)) W_, (binOp .neq 9 (sS ((List.getD Z i wz).wd.name)) (sS ((List.getD Y i wz).wd.name))).run Try.prog W_ = .ok (.bool true) W_]) [(.pointer (some (⟨ba, 2, none⟩)), .pointer (some (⟨ba, 2, none⟩))), (iN i, iN i), (.pointer (some (Addr.add p12 0)), .pointer (some (Addr.add p12 0))), (.pointer (some (⟨bb, 2, none⟩)), .pointer (some (⟨bb, 2, none⟩))), (iN i, iN i), (.pointer (some (Addr.add p15 0)), .pointer (some (Addr.add p15 0))), (.bool true, .bool true), (.bool true, .bool true)] [(2, pq ba), (3, pq bb), (5, iN i), (63, .bool true)] (by kernel_rfl) (by kernel_rfl) ([(63, .bool true), (62, undef), (61, undef), (60, undef), (59, undef), (58, undef), (57, undef), (56, undef), (55, undef), (54, undef), (53, undef), (52, undef), (51, undef), (50, undef), (49, undef), (48, .bool true), (47, .bool true), (46, sS ((List.getD Y i wz).wd.name)), (45, .pointer (some (Addr.add p15 0))), (44, .pointer (some p15)), (43, iN i), (42, wu), (41, .pointer (some (⟨bb, 2, none⟩))), (40, sS ((List.getD Z i wz).wd.name)), (39, .pointer (some (Addr.add p12 0))), (38, .pointer (some p12)), (37, iN i), (36, wv), (35, .pointer (some (⟨ba, 2, none⟩)))] ++ [(2, pq ba), (3, pq bb), (5, iN i)]) (fun W_ => by kernel_rfl) (by kernel_rfl) (.cons rfl (.cons rfl (.cons rfl (.cons rfl (.cons rfl (.cons rfl (.cons rfl (.cons rfl Obs.nil)))))))) (Kept.drewN _ _ 1) (fun W_ hW_ => (.cons (c_load pE27 ((hM.rd 0 rfl).kept0 hW_) (cel_obj ba 2) rfl) (.cons (hq14 _ _) (.cons (c_load pE9 ((hz.kept0 hM.kept).kept0 hW_) (Cel.add (At.cel hp13) 0) (recs_at (i := 0) wzC_len wz (by first | omega | (dsimp only; omega)) rfl)) (.cons (c_load pE27 ((hM.rd 1 rfl).kept0 hW_) (cel_obj bb 2) rfl) (.cons (hq17 _ _) (.cons (c_load pE9 ((hy.kept0 hM.kept).kept0 hW_) (Cel.add (At.cel hp16) 0) (recs_at (i := 0) wzC_len wz (by first | omega | (dsimp only; omega)) rfl)) (.cons (congrArg Value.bool h11 ▸ (f_strneq)) Obs.nil)))))))) (fun w18 hw19 => ?_)
    have hM20 := hM.ext hw19
    have hM21 := hM20.sub (sD (sD sR))
    refine GoS.run [4] [.n, .n, .n, .n, .n] _ [iC Try.f11 uL4, .inBlock 1, iC Try.f11 uL2, iL Try.f11 uL0, .inBlock 0, iC Try.f11 uL1] [(4, .bool false)] w18 (by kernel_rfl) .nil ?_
    refine GoS.ret (fn := Try.f11) (v := (.bool false)) Try.func11 (by kernel_rfl) ?_
    rw [hR]
    exact ⟨ret_bool (one_at (i := i) hZ hY (by omega) (by omega) (wd_ne1 h11p)).symm, hM21.sub sN⟩
   ·
    have h11p : ((List.getD Z i wz).wd.name) = ((List.getD Y i wz).wd.name) := of_decide_eq_true (p_nt h11)
    obtain ⟨p22, hp23, hq24⟩ := rd_at (i := ((i : Nat) : Int)) sT27 (hz.kept0 hM.kept) i (by omega) (by first | omega | (dsimp only; omega))
    obtain ⟨p25, hp26, hq27⟩ := rd_at (i := ((i : Nat) : Int)) sT27 (hy.kept0 hM.kept) i (by omega) (by first | omega | (dsimp only; omega))
    obtain ⟨p28, hp29, hq30⟩ := rd_at (i := ((i : Nat) : Int)) sT27 (hz.kept0 hM.kept) i (by omega) (by first | omega | (dsimp only; omega))
    obtain ⟨p31, hp32, hq33⟩ := rd_at (i := ((i : Nat) : Int)) sT27 (hy.kept0 hM.kept) i (by omega) (by first | omega | (dsimp only; omega))
    refine GoS.drawC (fun W_ => Kept [] w W_) 6 (by kernel_rfl) [2, 3, 5, 63] [.u (.pointer (some (⟨ba, 2, none⟩))) w, .h (wv), .u (iN i) w, .h (.pointer (some p22)), .u (.pointer (some (Addr.add p22 0))) w, .h (sS ((List.getD Z i wz).wd.name)), .u (.pointer (some (⟨bb, 2, none⟩))) w, .h (wu), .u (iN i) w, .h (.pointer (some p25)), .u (.pointer (some (Addr.add p25 0))) w, .h (sS ((List.getD Y i wz).wd.name)), .h (.bool false), .u (.bool false) w, .u (.pointer (some (⟨ba, 2, none⟩))) w, .h (wv), .u (iN i) w, .h (.pointer (some p28)), .u (.pointer (some (Addr.add p28 1))) w, .h (((List.getD Z i wz).toks)), .u (.pointer (some (⟨bb, 2, none⟩))) w, .h (wu), .u (iN i) w, .h (.pointer (some p31)), .u (.pointer (some (Addr.add p31 1))) w, .h (((List.getD Y i wz).toks)), .h (.bool (decide (((List.getD Z i wz).wd.toks) = ((List.getD Y i wz).wd.toks)))), .u (.bool (!(decide (((List.getD Z i wz).wd.toks) = ((List.getD Y i wz).wd.toks))))) w, .u (.bool (!(decide (((List.getD Z i wz).wd.toks) = ((List.getD Y i wz).wd.toks))))) w] (fun W_ => [(Instr.loadAt 27 (.pointer (some (⟨ba, 2, none⟩)))).run Try.prog W_ = .ok (wv) W_, (Instr.indexAt 27 (wv) (iN i)).run Try.prog W_ = .ok (.pointer (some p22)) W_, (Instr.loadAt 9 (.pointer (some (Addr.add p22 0)))).run Try.prog W_ = .ok (sS ((List.getD Z i wz).wd.name)) W_, (Instr.loadAt 27 (.pointer (some (⟨bb, 2, none⟩)))).run Try.prog W_ = .ok (wu) W_, (Instr.indexAt 27 (wu) (iN i)).run Try.prog W_ = .ok (.pointer (some p25)) W_, (Instr.loadAt 9 (.pointer (some (Addr.add p25 0)))).run Try.prog W_ = .ok (sS ((List.getD Y i wz).wd.name)) W_, (binOp .neq 9 (sS ((List.getD Z i wz).wd.name)) (sS ((List.getD Y i wz).wd.name))).run Try.prog W_ = .ok (.bool false) W_, (Instr.loadAt 27 (.pointer (some (⟨ba, 2, none⟩)))).run Try.prog W_ = .ok (wv) W_, (Instr.indexAt 27 (wv) (iN i)).run Try.prog W_ = .ok (.pointer (some p28)) W_, (Instr.loadAt 64 (.pointer (some (Addr.add p28 1)))).run Try.prog W_ = .ok (((List.getD Z i wz).toks)) W_, (Instr.loadAt 27 (.pointer (some (⟨bb, 2, none⟩)))).run Try.prog W_ = .ok (wu) W_, (Instr.indexAt 27 (wu) (iN i)).run Try.prog W_ = .ok (.pointer (some p31)) W_, (Instr.loadAt 64 (.pointer (some (Addr.add p31 1)))).run Try.prog W_ = .ok (((List.getD Y i wz).toks)) W_, (W_ = W_) ∧ Calls Try.prog 37 #[((List.getD Z i wz).toks), ((List.getD Y i wz).toks)] W_ (fun e W2 => e = .returned (.bool (decide (((List.getD Z i wz).wd.toks) = ((List.getD Y i wz).wd.toks)))) ∧ (fun W_ => Kept [] w W_) W2)]) [(.pointer (some (⟨ba, 2, none⟩)), .pointer (some (⟨ba, 2, none⟩))), (iN i, iN i), (.pointer (some (Addr.add p22 0)), .pointer (some (Addr.add p22 0))), (.pointer (some (⟨bb, 2, none⟩)), .pointer (some (⟨bb, 2, none⟩))), (iN i, iN i), (.pointer (some (Addr.add p25 0)), .pointer (some (Addr.add p25 0))), (.bool false, .bool false), (.pointer (some (⟨ba, 2, none⟩)), .pointer (some (⟨ba, 2, none⟩))), (iN i, iN i), (.pointer (some (Addr.add p28 1)), .pointer (some (Addr.add p28 1))), (.pointer (some (⟨bb, 2, none⟩)), .pointer (some (⟨bb, 2, none⟩))), (iN i, iN i), (.pointer (some (Addr.add p31 1)), .pointer (some (Addr.add p31 1))), (.bool (!(decide (((List.getD Z i wz).wd.toks) = ((List.getD Y i wz).wd.toks)))), .bool (!(decide (((List.getD Z i wz).wd.toks) = ((List.getD Y i wz).wd.toks))))), (.bool (!(decide (((List.getD Z i wz).wd.toks) = ((List.getD Y i wz).wd.toks)))), .bool (!(decide (((List.getD Z i wz).wd.toks) = ((List.getD Y i wz).wd.toks)))))] [(2, pq ba), (3, pq bb), (5, iN i), (63, .bool (!(decide (((List.getD Z i wz).wd.toks) = ((List.getD Y i wz).wd.toks)))))] (by kernel_rfl) (by kernel_rfl) ([(63, .bool (!(decide (((List.getD Z i wz).wd.toks) = ((List.getD Y i wz).wd.toks))))), (62, .bool (!(decide (((List.getD Z i wz).wd.toks) = ((List.getD Y i wz).wd.toks))))), (61, .bool (decide (((List.getD Z i wz).wd.toks) = ((List.getD Y i wz).wd.toks)))), (60, ((List.getD Y i wz).toks)), (59, .pointer (some (Addr.add p31 1))), (58, .pointer (some p31)), (57, iN i), (56, wu), (55, .pointer (some (⟨bb, 2, none⟩))), (54, ((List.getD Z i wz).toks)), (53, .pointer (some (Addr.add p28 1))), (52, .pointer (some p28)), (51, iN i), (50, wv), (49, .pointer (some (⟨ba, 2, none⟩))), (48, .bool false), (47, .bool false), (46, sS ((List.getD Y i wz).wd.name)), (45, .pointer (some (Addr.add p25 0))), (44, .pointer (some p25)), (43, iN i), (42, wu), (41, .pointer (some (⟨bb, 2, none⟩))), (40, sS ((List.getD Z i wz).wd.name)), (39, .pointer (some (Addr.add p22 0))), (38, .pointer (some p22)), (37, iN i), (36, wv), (35, .pointer (some (⟨ba, 2, none⟩)))] ++ [(2, pq ba), (3, pq bb), (5, iN i)]) (fun W_ => by kernel_rfl) (by kernel_rfl) (.cons rfl (.cons rfl (.cons rfl (.cons rfl (.cons rfl (.cons rfl (.cons rfl (.cons rfl (.cons rfl (.cons rfl (.cons rfl (.cons rfl (.cons rfl (.cons rfl (.cons rfl Obs.nil))))))))))))))) (Kept.drewN _ _ 1) (fun W_ hW_ => (.cons (c_load pE27 ((hM.rd 0 rfl).kept0 hW_) (cel_obj ba 2) rfl) (.cons (hq24 _ _) (.cons (c_load pE9 ((hz.kept0 hM.kept).kept0 hW_) (Cel.add (At.cel hp23) 0) (recs_at (i := 0) wzC_len wz (by first | omega | (dsimp only; omega)) rfl)) (.cons (c_load pE27 ((hM.rd 1 rfl).kept0 hW_) (cel_obj bb 2) rfl) (.cons (hq27 _ _) (.cons (c_load pE9 ((hy.kept0 hM.kept).kept0 hW_) (Cel.add (At.cel hp26) 0) (recs_at (i := 0) wzC_len wz (by first | omega | (dsimp only; omega)) rfl)) (.cons (congrArg Value.bool h11 ▸ (f_strneq)) (.cons (c_load pE27 ((hM.rd 0 rfl).kept0 hW_) (cel_obj ba 2) rfl) (.cons (hq30 _ _) (.cons (c_load pE64 ((hz.kept0 hM.kept).kept0 hW_) (Cel.add (At.cel hp29) 1) (recs_at (i := 1) wzC_len wz (by first | omega | (dsimp only; omega)) rfl)) (.cons (c_load pE27 ((hM.rd 1 rfl).kept0 hW_) (cel_obj bb 2) rfl) (.cons (hq33 _ _) (.cons (c_load pE64 ((hy.kept0 hM.kept).kept0 hW_) (Cel.add (At.cel hp32) 1) (recs_at (i := 1) wzC_len wz (by first | omega | (dsimp only; omega)) rfl)) (.cons (⟨rfl, Calls.mono (tks_c ((List.getD Z i wz).toks) ((List.getD Y i wz).toks) ((List.getD Z i wz).wd.toks) ((List.getD Y i wz).wd.toks) W_ (((ht (List.getD Z i wz) (getD_mem (by omega))).kept0 hM.kept).kept0 hW_) (((ht2 (List.getD Y i wz) (getD_mem (by omega))).kept0 hM.kept).kept0 hW_)) (fun e W2 h => ⟨h.1, Kept.trans hW_ h.2.mem.kept⟩)⟩) Obs.nil))))))))))))))) (fun w34 hw35 => ?_)
    have hM36 := hM.ext hw35
    refine GoS.cond (!(decide (((List.getD Z i wz).wd.toks) = ((List.getD Y i wz).wd.toks)))) [iC Try.f11 uL5, .inBlock 1, iC Try.f11 uL2, iL Try.f11 uL0, .inBlock 0, iC Try.f11 uL1] [iC Try.f11 uL6, .inBlock 1, iC Try.f11 uL2, iL Try.f11 uL0, .inBlock 0, iC Try.f11 uL1] (by kernel_rfl) (fun h37 => ?_) (fun h37 => ?_)
    ·
     have h37p : ¬ (((List.getD Z i wz).wd.toks) = ((List.getD Y i wz).wd.toks)) := of_decide_eq_false (p_nf h37)
     have hM38 := hM36.sub (sD (sD sR))
     refine GoS.run [4] [.n, .n, .n, .n] _ [iC Try.f11 uL4, .inBlock 1, iC Try.f11 uL2, iL Try.f11 uL0, .inBlock 0, iC Try.f11 uL1] [(4, .bool false)] w34 (by kernel_rfl) .nil ?_
     refine GoS.ret (fn := Try.f11) (v := (.bool false)) Try.func11 (by kernel_rfl) ?_
     rw [hR]
     exact ⟨ret_bool (one_at (i := i) hZ hY (by omega) (by omega) (wd_ne2 h37p)).symm, hM38.sub sN⟩
    ·
     have h37p : ((List.getD Z i wz).wd.toks) = ((List.getD Y i wz).wd.toks) := of_decide_eq_true (p_nt h37)
     refine GoS.run [2, 3, 5] [.n] _ [.inBlock 1, iC Try.f11 uL2, iL Try.f11 uL0, .inBlock 0, iC Try.f11 uL1] [(2, pq ba), (3, pq bb), (5, iN i)] w34 (by kernel_rfl) .nil ?_
     have o39 : (binOp .add 3 (iN i) (.int .i64 1)).run Try.prog w34 = .ok (iN (i + 1)) w34 := f_add (by rw [show ((i : Nat) : Int) + 1 = (((i + 1) : Nat) : Int) by omega]; exact IntWalk.i64_in _ (by omega))
     refine GoS.run [2, 3, 5] [.n, .n, .n, .h (iN (i + 1)), .n, .n, .n] _ [iC Try.f11 uL0, iL Try.f11 uL0, .inBlock 0, iC Try.f11 uL1] [(2, pq ba), (3, pq bb), (5, iN (i + 1))] w34 (by kernel_rfl) (.cons o39 .nil) ?_
     exact ih (i + 1) _ (by omega) (fun j hj => by rcases Nat.lt_succ_iff_lt_or_eq.1 hj with g | g; exact hw j g; subst g; exact wd_eq h11p h37p) (hM36.sub (sK (sK sN))) (by omega)
  ·
   have h3p : ¬ (((i : Nat) : Int) < (((List.length Z) : Nat) : Int)) := of_decide_eq_false h3
   have hM4 := hM.sub (sD (sD sR))
   refine GoS.run [4] [.n, .n, .n, .n, .n] _ [iC Try.f11 [1,1,1,1]] [(4, .bool true)] w (by kernel_rfl) .nil ?_
   refine GoS.ret (fn := Try.f11) (v := (.bool true)) Try.func11 (by kernel_rfl) ?_
   rw [hR]
   exact ⟨ret_bool (one_all hZ hY hk hu hl (fun j hj => hw j (by omega))).symm, hM4.sub sN⟩

set_option maxHeartbeats 400000 in
theorem pone_c {w : World} (p q : Pc) (nv wv nu wu : Value) (hp : RdP w p nv wv) (hq : RdP w q nu wu) :
  Calls Try.prog 11 #[.agg #[sS (p.key), nv, wv], .agg #[sS (q.key), nu, wu]] w (fun e w' => e = .returned (.bool (decide (p = q))) ∧ Mem [] w w' []) := by
 obtain ⟨hn, Z, hZ, hz, ht⟩ := hp
 obtain ⟨hn2, Y, hY, hy, ht2⟩ := hq
 have hl1 := rd_len hz
 have hl2 := rd_len hy
 simp only [maxLen] at hl1 hl2
 obtain ⟨R, hR⟩ : ∃ R : Ending → World → Prop, R = (fun e w' => e = .returned (.bool (decide (p = q))) ∧ Mem [] w w' []) := ⟨_, rfl⟩
 rw [← hR]
 refine GoS.enter (n := 64) Try.func11 (by kernel_rfl) rfl [(0, .agg #[sS (p.key), nv, wv]), (1, .agg #[sS (q.key), nu, wu])] (by kernel_rfl) (by kernel_rfl) ?_
 have hM0 := Mem.start w
 obtain ⟨b1, w2, hr3, hM4⟩ := m_box (T := 29) (k := 3) (u := .agg #[sS (p.key), nv, wv]) rfl rfl hM0
 have hM5 : Mem [] w w2 [⟨29, 3, (obj b1), 1, [sS (p.key), nv, wv]⟩] := hM4
 have o11 : (Instr.box 29 (.agg #[sS (p.key), nv, wv])).run Try.prog w = .ok (pq b1) w2 := hr3
 obtain ⟨b6, w7, hr8, hM9⟩ := m_box (T := 29) (k := 3) (u := .agg #[sS (q.key), nu, wu]) rfl rfl hM5
 have hM10 : Mem [] w w7 [⟨29, 3, (obj b6), 1, [sS (q.key), nu, wu]⟩, ⟨29, 3, (obj b1), 1, [sS (p.key), nv, wv]⟩] := hM9
 have o12 : (Instr.box 29 (.agg #[sS (q.key), nu, wu])).run Try.prog w2 = .ok (pq b6) w7 := hr8
 have o13 : (Instr.loadAt 9 (pq b1)).run Try.prog w7 = .ok (sS (p.key)) w7 := c_load pE9 (hM10.rd 1 rfl) (cel_obj b1 0) rfl
 have o14 : (Instr.loadAt 9 (pq b6)).run Try.prog w7 = .ok (sS (q.key)) w7 := c_load pE9 (hM10.rd 0 rfl) (cel_obj b6 0) rfl
 have o15 : (binOp .neq 9 (sS (p.key)) (sS (q.key))).run Try.prog w7 = .ok (.bool (!(decide (p.key = q.key)))) w7 := f_strneq
 refine GoS.run [2, 3, 11] [.n, .n, .u (pq b1) (w2), .u (pq b6) (w7), .n, .n, .n, .n, .n, .n, .h (sS (p.key)), .n, .h (sS (q.key)), .h (.bool (!(decide (p.key = q.key)))), .n] _ [.inRegion (cops (csub (cd Try.f11) [1,0,0])) [6,7,8,9,10,11,12,13,14,15,16,17,18,19,20,21], iC Try.f11 [1,0,1], iC Try.f11 [1,1]] [(2, pq b1), (3, pq b6), (11, .bool (!(decide (p.key = q.key))))] w7 (by kernel_rfl) (.cons o11 (.cons o12 (.cons o13 (.cons o14 (.cons o15 .nil))))) ?_
 refine GoS.fork 11 (!(decide (p.key = q.key))) (by kernel_rfl) (fun h16 => ?_) (fun h16 => ?_)
 ·
  have h16p : ¬ (p.key = q.key) := of_decide_eq_false (p_nf h16)
  refine GoS.run [2, 3, 27] [.n, .n, .n, .n, .n, .n, .n, .n, .n, .n, .n, .n, .n, .n, .n, .n] _ [.inRegion (cops (csub (cd Try.f11) [1,0,0])) [], iC Try.f11 [1,0,1], iC Try.f11 [1,1]] [(2, pq b1), (3, pq b6), (27, .bool true)] w7 (by kernel_rfl) .nil ?_
  have hM27 := hM10.sub (sD (sD sR))
  refine GoS.run [4] [.n, .n, .n, .n, .n, .n] _ [iC Try.f11 [1,0,1,0,1], iC Try.f11 [1,1]] [(4, .bool false)] w7 (by kernel_rfl) .nil ?_
  refine GoS.ret (fn := Try.f11) (v := (.bool false)) Try.func11 (by kernel_rfl) ?_
  rw [hR]
  exact ⟨ret_bool (one_key h16p).symm, hM27.sub sN⟩
 ·
  have h16p : p.key = q.key := of_decide_eq_true (p_nt h16)
  have o17 : (Instr.loadAt 23 (.pointer (some (⟨b1, 1, none⟩)))).run Try.prog w7 = .ok (nv) w7 := c_load pE23 (hM10.rd 1 rfl) (cel_obj b1 1) rfl
  have o18 : (Instr.loadAt 23 (.pointer (some (⟨b6, 1, none⟩)))).run Try.prog w7 = .ok (nu) w7 := c_load pE23 (hM10.rd 0 rfl) (cel_obj b6 1) rfl
  refine GoS.run [2, 3, 11, 13, 15] [.n, .h (nv), .n, .h (nu)] _ [.inRegion (cops (csub (cd Try.f11) [1,0,0])) [10,11,12,13,14,15,16,17,18,19,20,21], iC Try.f11 [1,0,1], iC Try.f11 [1,1]] [(2, pq b1), (3, pq b6), (11, .bool false), (13, nv), (15, nu)] w7 (by kernel_rfl) (.cons o17 (.cons o18 .nil)) ?_
  refine GoS.call [2, 3, 11] 36 #[nv, nu] (some 16) [.inRegion (cops (csub (cd Try.f11) [1,0,0])) [11,12,13,14,15,16,17,18,19,20,21], iC Try.f11 [1,0,1], iC Try.f11 [1,1]] [(2, pq b1), (3, pq b6), (11, .bool false)] (by kernel_rfl) (nms_c nv nu (p.nums) (q.nums) w7 (hn.kept0 hM10.kept) (hn2.kept0 hM10.kept)) ?_
  rintro _ w19 ⟨rfl, d20⟩
  refine ⟨_, rfl, ?_⟩
  have hM21 := hM10.dr d20
  refine GoS.run [2, 3, 19] [.n, .n, .n] _ [.inRegion (cops (csub (cd Try.f11) [1,0,0])) [14,15,16,17,18,19,20,21], iC Try.f11 [1,0,1], iC Try.f11 [1,1]] [(2, pq b1), (3, pq b6), (19, .bool (!(decide ((p.nums) = (q.nums)))))] w19 (by kernel_rfl) .nil ?_
  refine GoS.fork 19 (!(decide ((p.nums) = (q.nums)))) (by kernel_rfl) (fun h22 => ?_) (fun h22 => ?_)
  ·
   have h22p : ¬ ((p.nums) = (q.nums)) := of_decide_eq_false (p_nf h22)
   refine GoS.run [2, 3, 27] [.n, .n, .n, .n, .n, .n, .n, .n] _ [.inRegion (cops (csub (cd Try.f11) [1,0,0])) [], iC Try.f11 [1,0,1], iC Try.f11 [1,1]] [(2, pq b1), (3, pq b6), (27, .bool true)] w19 (by kernel_rfl) .nil ?_
   have hM28 := hM21.sub (sD (sD sR))
   refine GoS.run [4] [.n, .n, .n, .n, .n, .n] _ [iC Try.f11 [1,0,1,0,1], iC Try.f11 [1,1]] [(4, .bool false)] w19 (by kernel_rfl) .nil ?_
   refine GoS.ret (fn := Try.f11) (v := (.bool false)) Try.func11 (by kernel_rfl) ?_
   rw [hR]
   exact ⟨ret_bool (one_nums h22p).symm, hM28.sub sN⟩
  ·
   have h22p : (p.nums) = (q.nums) := of_decide_eq_true (p_nt h22)
   have o23 : (Instr.loadAt 27 (.pointer (some (⟨b1, 2, none⟩)))).run Try.prog w19 = .ok (wv) w19 := c_load pE27 (hM21.rd 1 rfl) (cel_obj b1 2) rfl
   have o24 : (Builtin.len_ #[27] 3 #[wv]).run Try.prog w19 = .ok (iN (List.length Z)) w19 := f_slen sT27 (hz.kept0 hM21.kept) 3 _
   have o25 : (Instr.loadAt 27 (.pointer (some (⟨b6, 2, none⟩)))).run Try.prog w19 = .ok (wu) w19 := c_load pE27 (hM21.rd 0 rfl) (cel_obj b6 2) rfl
   have o26 : (Builtin.len_ #[27] 3 #[wu]).run Try.prog w19 = .ok (iN (List.length Y)) w19 := f_slen sT27 (hy.kept0 hM21.kept) 3 _
   refine GoS.run [2, 3, 27] [.n, .h (wv), .h (iN (List.length Z)), .n, .h (wu), .h (iN (List.length Y)), .n, .n] _ [.inRegion (cops (csub (cd Try.f11) [1,0,0])) [], iC Try.f11 [1,0,1], iC Try.f11 [1,1]] [(2, pq b1), (3, pq b6), (27, .bool ((((List.length Z) : Nat) : Int) != (((List.length Y) : Nat) : Int)))] w19 (by kernel_rfl) (.cons o23 (.cons o24 (.cons o25 (.cons o26 .nil)))) ?_
   refine GoS.run [2, 3, 27] [.n] _ [iC Try.f11 [1,0,1], iC Try.f11 [1,1]] [(2, pq b1), (3, pq b6), (27, .bool ((((List.length Z) : Nat) : Int) != (((List.length Y) : Nat) : Int)))] w19 (by kernel_rfl) .nil ?_
   refine GoS.cond ((((List.length Z) : Nat) : Int) != (((List.length Y) : Nat) : Int)) [iC Try.f11 [1,0,1,0], iC Try.f11 [1,1]] [iC Try.f11 [1,0,1,1], iC Try.f11 [1,1]] (by kernel_rfl) (fun h29 => ?_) (fun h29 => ?_)
   ·
    have h29p : ¬ ((((List.length Z) : Nat) : Int) = (((List.length Y) : Nat) : Int)) := bne_iff_ne.1 h29
    have hM30 := hM21.sub (sD (sD sR))
    refine GoS.run [4] [.n, .n, .n, .n] _ [iC Try.f11 [1,0,1,0,1], iC Try.f11 [1,1]] [(4, .bool false)] w19 (by kernel_rfl) .nil ?_
    refine GoS.ret (fn := Try.f11) (v := (.bool false)) Try.func11 (by kernel_rfl) ?_
    rw [hR]
    exact ⟨ret_bool (one_len hZ hY (by omega)).symm, hM30.sub sN⟩
   ·
    have h29p : (((List.length Z) : Nat) : Int) = (((List.length Y) : Nat) : Int) := p_eq h29
    refine GoS.run [2, 3] [.n] _ [iC Try.f11 [1,1]] [(2, pq b1), (3, pq b6)] w19 (by kernel_rfl) .nil ?_
    refine GoS.run [2, 3, 5] [.n, .n, .n, .n, .n, .n, .n] _ [iC Try.f11 uL0, iL Try.f11 uL0, .inBlock 0, iC Try.f11 uL1] [(2, pq b1), (3, pq b6), (5, .int .i64 0)] w19 (by kernel_rfl) .nil ?_
    have hM31 : Mem [] w w19 [⟨29, 3, (obj b1), 1, [sS (p.key), nv, wv]⟩, ⟨29, 3, (obj b6), 1, [sS (q.key), nu, wu]⟩] := hM21.perm (pS pR)
    exact pone_L p q nv wv nu wu hn Z hZ hz ht hn2 Y hY hy ht2 h16p h22p (by omega) b1 b6 R hR (Z.length + 1) 0 w19 (Nat.zero_le _) (fun j hj => absurd hj (Nat.not_lt_zero _)) (hM31.sub (sK (sK sN))) (by omega)

theorem pone_yes {w : World} (p : Pc) (nv wv nu wu : Value) (hp : RdP w p nv wv) (hq : RdP w p nu wu) :
  Calls Try.prog 11 #[.agg #[sS (p.key), nv, wv], .agg #[sS (p.key), nu, wu]] w (fun e w' => e = .returned (.bool true) ∧ Mem [] w w' []) := by
 have z := pone_c p p nv wv nu wu hp hq
 rwa [decide_eq_true rfl] at z


end Go.Proofs.Ytcdcehjilneifaa
