/-
  The walks of Same, Without, Has of the references.
-/
import Derived.Test.YtcdcehjilneifaaPcW
namespace Go.Proofs.Ytcdcehjilneifaa
open Go Go.Gw Go.UtfP Go.TokP Go.PcP Go.RowKit
set_option linter.unusedVariables false
set_option linter.unusedSimpArgs false
set_option maxRecDepth 20000


abbrev uM0 : List Nat := [1,1,0,1,0,0]
abbrev uM1 : List Nat := [1,1,1]
abbrev uM2 : List Nat := [1,1,0,1,0,0,1,1]
abbrev uM3 : List Nat := [1,1,0,1,0,0,1]
set_option maxHeartbeats 400000 in
theorem psame_L {w0 : World} (v u : Value) (Z Y : List PZ) (hv : Rd w0 3 v Z.length (recs pzC Z)) (hu : Rd w0 3 u Y.length (recs pzC Y)) (hz : ∀ z ∈ Z, RdP w0 z.pc z.nums z.words) (hy : ∀ z ∈ Y, RdP w0 z.pc z.nums z.words) (hl : Z.length = Y.length) (R : Ending → World → Prop) (hR : R = (fun e w' => e = .returned (.bool (decide (Z.map PZ.pc = Y.map PZ.pc))) ∧ Mem [] w0 w' [])) : ∀ (N : Nat) (i : Nat) (w : World) (hi : i ≤ Z.length) (hw : ∀ j, j < i → (Z.getD j pz).pc = (Y.getD j pz).pc) (hM : Mem [] w0 w []) (hN : Z.length - i < N), GoS Try.prog 25 R 27 [iC Try.f25 uM0, iL Try.f25 uM0, .inBlock 0, iC Try.f25 uM1] [(0, v), (1, u), (5, iN i)] w := by
 intro N
 induction N with
 | zero => intro i w hi hw hM hN; exact absurd hN (Nat.not_lt_zero _)
 | succ N ih =>
  intro i w hi hw hM hN
  have hl1 := rd_len hv
  simp only [maxLen] at hl1
  have o1 : (Builtin.len_ #[43] 3 #[v]).run Try.prog w = .ok (iN (List.length Z)) w := f_slen sT43 (hv.kept0 hM.kept) 3 _
  refine GoS.run [0, 1, 5, 14] [.n, .n, .n, .n, .n, .h (iN (List.length Z)), .n, .n] _ [iC Try.f25 [1,1,0,1,0,0,0,1], iC Try.f25 uM3, iL Try.f25 uM0, .inBlock 0, iC Try.f25 uM1] [(0, v), (1, u), (5, iN i), (14, .bool (decide (((i : Nat) : Int) < (((List.length Z) : Nat) : Int))))] w (by kernel_rfl) (.cons o1 .nil) ?_
  refine GoS.cond (decide (((i : Nat) : Int) < (((List.length Z) : Nat) : Int))) [iC Try.f25 [1,1,0,1,0,0,0,1,0], iC Try.f25 uM3, iL Try.f25 uM0, .inBlock 0, iC Try.f25 uM1] [iC Try.f25 [1,1,0,1,0,0,0,1,1], iC Try.f25 uM3, iL Try.f25 uM0, .inBlock 0, iC Try.f25 uM1] (by kernel_rfl) (fun h2 => ?_) (fun h2 => ?_)
  ·
   have h2p : ((i : Nat) : Int) < (((List.length Z) : Nat) : Int) := of_decide_eq_true h2
   refine GoS.run [0, 1, 5] [.n] _ [iC Try.f25 uM3, iL Try.f25 uM0, .inBlock 0, iC Try.f25 uM1] [(0, v), (1, u), (5, iN i)] w (by kernel_rfl) .nil ?_
   refine GoS.run [0, 1, 5] [.n, .n, .n] _ [iC Try.f25 [1,1,0,1,0,0,1,0,0,0], iC Try.f25 [1,1,0,1,0,0,1,0,0,1], .inBlock 1, iC Try.f25 uM2, iL Try.f25 uM0, .inBlock 0, iC Try.f25 uM1] [(0, v), (1, u), (5, iN i)] w (by kernel_rfl) .nil ?_
   obtain ⟨p3, hp4, hq5⟩ := rd_at (i := ((i : Nat) : Int)) sT43 (hv.kept0 hM.kept) i (by omega) (by first | omega | (dsimp only; omega))
   obtain ⟨p6, hp7, hq8⟩ := rd_at (i := ((i : Nat) : Int)) sT43 (hu.kept0 hM.kept) i (by omega) (by first | omega | (dsimp only; omega))
   refine GoS.drawC (fun W_ => Kept [] w W_) 6 (by kernel_rfl) [0, 1, 5, 26] [.u (v) w, .u (iN i) w, .h (.pointer (some p3)), .h (.agg #[sS ((List.getD Z i pz).pc.key), ((List.getD Z i pz).nums), ((List.getD Z i pz).words)]), .u (u) w, .u (iN i) w, .h (.pointer (some p6)), .h (.agg #[sS ((List.getD Y i pz).pc.key), ((List.getD Y i pz).nums), ((List.getD Y i pz).words)]), .h (.bool (decide ((List.getD Z i pz).pc = (List.getD Y i pz).pc))), .u (.bool (!(decide ((List.getD Z i pz).pc = (List.getD Y i pz).pc)))) w] (fun W_ => [(Instr.indexAt 43 (v) (iN i)).run Try.prog W_ = .ok (.pointer (some p3)) W_, (Instr.loadAt 29 (.pointer (some p3))).run Try.prog W_ = .ok (.agg #[sS ((List.getD Z i pz).pc.key), ((List.getD Z i pz).nums), ((List.getD Z i pz).words)]) W_, (Instr.indexAt 43 (u) (iN i)).run Try.prog W_ = .ok (.pointer (some p6)) W_, (Instr.loadAt 29 (.pointer (some p6))).run Try.prog W_ = .ok (.agg #[sS ((List.getD Y i pz).pc.key), ((List.getD Y i pz).nums), ((List.getD Y i pz).words)]) W_, (W_ = W_) ∧ Calls Try.prog 11 #[.agg #[sS ((List.getD Z i pz).pc.key), ((List.getD Z i pz).nums), ((List.getD Z i pz).words)], .agg #[sS ((List.getD Y i pz).pc.key), ((List.getD Y i pz).nums), ((List.getD Y i pz).words)]] W_ (fun e W2 => e = .returned (.bool (decide ((List.getD Z i pz).pc = (List.getD Y i pz).pc))) ∧ (fun W_ => Kept [] w W_) W2)]) [(v, v), (iN i, iN i), (u, u), (iN i, iN i), (.bool (!(decide ((List.getD Z i pz).pc = (List.getD Y i pz).pc))), .bool (!(decide ((List.getD Z i pz).pc = (List.getD Y i pz).pc))))] [(0, v), (1, u), (5, iN i), (26, .bool (!(decide ((List.getD Z i pz).pc = (List.getD Y i pz).pc))))] (by kernel_rfl) (by kernel_rfl) ([(26, .bool (!(decide ((List.getD Z i pz).pc = (List.getD Y i pz).pc)))), (25, .bool (decide ((List.getD Z i pz).pc = (List.getD Y i pz).pc))), (24, .agg #[sS ((List.getD Y i pz).pc.key), ((List.getD Y i pz).nums), ((List.getD Y i pz).words)]), (23, .pointer (some p6)), (22, iN i), (21, u), (20, .agg #[sS ((List.getD Z i pz).pc.key), ((List.getD Z i pz).nums), ((List.getD Z i pz).words)]), (19, .pointer (some p3)), (18, iN i), (17, v)] ++ [(0, v), (1, u), (5, iN i)]) (fun W_ => by kernel_rfl) (by kernel_rfl) (.cons rfl (.cons rfl (.cons rfl (.cons rfl (.cons rfl Obs.nil))))) (Kept.drewN _ _ 1) (fun W_ hW_ => (.cons (hq5 _ _) (.cons (r_loads (f := pzC) (l := Z) aE29 ((hv.kept0 hM.kept).kept0 hW_) pzC_len hp4 (by first | omega | (dsimp only; omega)) pz) (.cons (hq8 _ _) (.cons (r_loads (f := pzC) (l := Y) aE29 ((hu.kept0 hM.kept).kept0 hW_) pzC_len hp7 (by first | omega | (dsimp only; omega)) pz) (.cons (⟨rfl, Calls.mono (pone_c ((List.getD Z i pz).pc) ((List.getD Y i pz).pc) ((List.getD Z i pz).nums) ((List.getD Z i pz).words) ((List.getD Y i pz).nums) ((List.getD Y i pz).words) (((hz _ (getD_mem (i := i) (d := pz) (by omega))).kept hM.kept).kept hW_) (((hy _ (getD_mem (i := i) (d := pz) (by omega))).kept hM.kept).kept hW_)) (fun e W2 h => ⟨h.1, Kept.trans hW_ h.2.kept⟩)⟩) Obs.nil)))))) (fun w9 hw10 => ?_)
   have hM11 := hM.ext hw10
   refine GoS.cond (!(decide ((List.getD Z i pz).pc = (List.getD Y i pz).pc))) [iC Try.f25 [1,1,0,1,0,0,1,0,0,1,0], .inBlock 1, iC Try.f25 uM2, iL Try.f25 uM0, .inBlock 0, iC Try.f25 uM1] [iC Try.f25 [1,1,0,1,0,0,1,0,0,1,1], .inBlock 1, iC Try.f25 uM2, iL Try.f25 uM0, .inBlock 0, iC Try.f25 uM1] (by kernel_rfl) (fun h12 => ?_) (fun h12 => ?_)
   ·
    have h12p : ¬ ((List.getD Z i pz).pc = (List.getD Y i pz).pc) := of_decide_eq_false (p_nf h12)
    refine GoS.run [4] [.n, .n, .n, .n] _ [iC Try.f25 [1,1,0,1,0,0,1,0,0,1,0,1], .inBlock 1, iC Try.f25 uM2, iL Try.f25 uM0, .inBlock 0, iC Try.f25 uM1] [(4, .bool false)] w9 (by kernel_rfl) .nil ?_
    refine GoS.ret (fn := Try.f25) (v := (.bool false)) Try.func25 (by kernel_rfl) ?_
    rw [hR]
    exact ⟨ret_bool (same_at (i := i) (by omega) (by omega) h12p).symm, hM11.sub sN⟩
   ·
    have h12p : (List.getD Z i pz).pc = (List.getD Y i pz).pc := of_decide_eq_true (p_nt h12)
    refine GoS.run [0, 1, 5] [.n] _ [.inBlock 1, iC Try.f25 uM2, iL Try.f25 uM0, .inBlock 0, iC Try.f25 uM1] [(0, v), (1, u), (5, iN i)] w9 (by kernel_rfl) .nil ?_
    have o13 : (binOp .add 3 (iN i) (.int .i64 1)).run Try.prog w9 = .ok (iN (i + 1)) w9 := f_add (by rw [show ((i : Nat) : Int) + 1 = (((i + 1) : Nat) : Int) by omega]; exact IntWalk.i64_in _ (by omega))
    refine GoS.run [0, 1, 5] [.n, .n, .n, .h (iN (i + 1)), .n, .n, .n] _ [iC Try.f25 uM0, iL Try.f25 uM0, .inBlock 0, iC Try.f25 uM1] [(0, v), (1, u), (5, iN (i + 1))] w9 (by kernel_rfl) (.cons o13 .nil) ?_
    exact ih (i + 1) _ (by omega) (fun j hj => by rcases Nat.lt_succ_iff_lt_or_eq.1 hj with g | g; exact hw j g; subst g; exact h12p) (hM11.sub sN) (by omega)
  ·
   have h2p : ¬ (((i : Nat) : Int) < (((List.length Z) : Nat) : Int)) := of_decide_eq_false h2
   refine GoS.run [4] [.n, .n, .n, .n, .n] _ [iC Try.f25 [1,1,1,1]] [(4, .bool true)] w (by kernel_rfl) .nil ?_
   refine GoS.ret (fn := Try.f25) (v := (.bool true)) Try.func25 (by kernel_rfl) ?_
   rw [hR]
   exact ⟨ret_bool (same_all hl (fun j hj => hw j (by omega))).symm, hM.sub sN⟩

set_option maxHeartbeats 400000 in
theorem psame_c {w : World} (v u : Value) (Z Y : List PZ) (hv : Rd w 3 v Z.length (recs pzC Z)) (hu : Rd w 3 u Y.length (recs pzC Y)) (hz : ∀ z ∈ Z, RdP w z.pc z.nums z.words) (hy : ∀ z ∈ Y, RdP w z.pc z.nums z.words) :
  Calls Try.prog 25 #[v, u] w (fun e w' => e = .returned (.bool (decide (Z.map PZ.pc = Y.map PZ.pc))) ∧ Mem [] w w' []) := by
 have hl1 := rd_len hv
 simp only [maxLen] at hl1
 obtain ⟨R, hR⟩ : ∃ R : Ending → World → Prop, R = (fun e w' => e = .returned (.bool (decide (Z.map PZ.pc = Y.map PZ.pc))) ∧ Mem [] w w' []) := ⟨_, rfl⟩
 rw [← hR]
 refine GoS.enter (n := 27) Try.func25 (by kernel_rfl) rfl [(0, v), (1, u)] (by kernel_rfl) (by kernel_rfl) ?_
 have hM0 := Mem.start w
 have o1 : (Builtin.len_ #[43] 3 #[v]).run Try.prog w = .ok (iN (List.length Z)) w := f_slen sT43 (hv.kept0 hM0.kept) 3 _
 have o2 : (Builtin.len_ #[43] 3 #[u]).run Try.prog w = .ok (iN (List.length Y)) w := f_slen sT43 (hu.kept0 hM0.kept) 3 _
 refine GoS.run [0, 1, 10] [.n, .n, .n, .n, .n, .n, .n, .n, .h (iN (List.length Z)), .n, .h (iN (List.length Y)), .n, .n] _ [iC Try.f25 [1,0,1], iC Try.f25 [1,1]] [(0, v), (1, u), (10, .bool ((((List.length Z) : Nat) : Int) != (((List.length Y) : Nat) : Int)))] w (by kernel_rfl) (.cons o1 (.cons o2 .nil)) ?_
 refine GoS.cond ((((List.length Z) : Nat) : Int) != (((List.length Y) : Nat) : Int)) [iC Try.f25 [1,0,1,0], iC Try.f25 [1,1]] [iC Try.f25 [1,0,1,1], iC Try.f25 [1,1]] (by kernel_rfl) (fun h3 => ?_) (fun h3 => ?_)
 ·
  have h3p : ¬ ((((List.length Z) : Nat) : Int) = (((List.length Y) : Nat) : Int)) := bne_iff_ne.1 h3
  refine GoS.run [4] [.n, .n, .n, .n] _ [iC Try.f25 [1,0,1,0,1], iC Try.f25 [1,1]] [(4, .bool false)] w (by kernel_rfl) .nil ?_
  refine GoS.ret (fn := Try.f25) (v := (.bool false)) Try.func25 (by kernel_rfl) ?_
  rw [hR]
  exact ⟨ret_bool (same_len (by omega)).symm, hM0.sub sN⟩
 ·
  have h3p : (((List.length Z) : Nat) : Int) = (((List.length Y) : Nat) : Int) := p_eq h3
  refine GoS.run [0, 1] [.n] _ [iC Try.f25 [1,1]] [(0, v), (1, u)] w (by kernel_rfl) .nil ?_
  refine GoS.run [0, 1, 5] [.n, .n, .n, .n, .n, .n, .n] _ [iC Try.f25 uM0, iL Try.f25 uM0, .inBlock 0, iC Try.f25 uM1] [(0, v), (1, u), (5, .int .i64 0)] w (by kernel_rfl) .nil ?_
  exact psame_L v u Z Y hv hu hz hy (by omega) R hR (Z.length + 1) 0 w (Nat.zero_le _) (fun j hj => absurd hj (Nat.not_lt_zero _)) (hM0.sub sN) (by omega)

set_option maxHeartbeats 400000 in
theorem wo_L {w0 : World} (v : Value) (key : List UInt8) (Z : List PZ) (hv : Rd w0 3 v Z.length (recs pzC Z)) (hz : ∀ z ∈ Z, RdP w0 z.pc z.nums z.words) (hlz : Z.length ≤ 2000000) (R : Ending → World → Prop) (hR : R = (fun e w' => ∃ v', e = .returned v' ∧ Mem [] w0 w' [⟨29, 3, v', (List.length (woZ key Z)), (recs pzC (woZ key Z))⟩])) : ∀ (N : Nat) (v' : Value) (i : Nat) (w : World) (hi : i ≤ Z.length) (hM : Mem [] w0 w [⟨29, 3, v', (List.length (woZ key (Z.take i))), (recs pzC (woZ key (Z.take i)))⟩]) (hN : Z.length - i < N), GoS Try.prog 17 R 28 [iC Try.f17 uM0, iL Try.f17 uM0, .inBlock 0, iC Try.f17 uM1] [(0, v), (1, sS key), (5, v'), (6, iN i)] w := by
 intro N
 induction N with
 | zero => intro v' i w hi hM hN; exact absurd hN (Nat.not_lt_zero _)
 | succ N ih =>
  intro v' i w hi hM hN
  have hone : OneZ Z := fun z hq => ⟨(rdp_one (hz z hq)).1, (rdp_one (hz z hq)).2⟩
  have hfrm : ∀ z ∈ Z, (∃ a m c, z.nums = .slice a m c) ∧ ∃ a m c, z.words = .slice a m c := fun z hq => rdp_frm (hz z hq)
  have hwl : (woZ key (List.take i Z)).length ≤ (List.take i Z).length := wo_len
  rw [List.length_take] at hwl
  have o1 : (Builtin.len_ #[43] 3 #[v]).run Try.prog w = .ok (iN (List.length Z)) w := f_slen sT43 (hv.kept0 hM.kept) 3 _
  refine GoS.run [0, 1, 5, 6, 10] [.n, .n, .n, .n, .n, .h (iN (List.length Z)), .n, .n] _ [iC Try.f17 [1,1,0,1,0,0,0,1], iC Try.f17 uM3, iL Try.f17 uM0, .inBlock 0, iC Try.f17 uM1] [(0, v), (1, sS key), (5, v'), (6, iN i), (10, .bool (decide (((i : Nat) : Int) < (((List.length Z) : Nat) : Int))))] w (by kernel_rfl) (.cons o1 .nil) ?_
  refine GoS.cond (decide (((i : Nat) : Int) < (((List.length Z) : Nat) : Int))) [iC Try.f17 [1,1,0,1,0,0,0,1,0], iC Try.f17 uM3, iL Try.f17 uM0, .inBlock 0, iC Try.f17 uM1] [iC Try.f17 [1,1,0,1,0,0,0,1,1], iC Try.f17 uM3, iL Try.f17 uM0, .inBlock 0, iC Try.f17 uM1] (by kernel_rfl) (fun h2 => ?_) (fun h2 => ?_)
  ·
   have h2p : ((i : Nat) : Int) < (((List.length Z) : Nat) : Int) := of_decide_eq_true h2
   refine GoS.run [0, 1, 5, 6] [.n] _ [iC Try.f17 uM3, iL Try.f17 uM0, .inBlock 0, iC Try.f17 uM1] [(0, v), (1, sS key), (5, v'), (6, iN i)] w (by kernel_rfl) .nil ?_
   obtain ⟨p3, hp4, hq5⟩ := rd_at (i := ((i : Nat) : Int)) sT43 (hv.kept0 hM.kept) i (by omega) (by first | omega | (dsimp only; omega))
   have o6 : (Instr.indexAt 43 (v) (iN i)).run Try.prog w = .ok (.pointer (some p3)) w := hq5 _ _
   have o7 : (Instr.loadAt 9 (.pointer (some (Addr.add p3 0)))).run Try.prog w = .ok (sS ((List.getD Z i pz).pc.key)) w := c_load pE9 (hv.kept0 hM.kept) (Cel.add (At.cel hp4) 0) (recs_at (i := 0) pzC_len pz (by first | omega | (dsimp only; omega)) rfl)
   have o8 : (binOp .neq 9 (sS ((List.getD Z i pz).pc.key)) (sS key)).run Try.prog w = .ok (.bool (!(decide (((List.getD Z i pz).pc.key) = key)))) w := f_strneq
   refine GoS.run [0, 1, 5, 6, 19] [.n, .n, .n, .n, .n, .n, .h (.pointer (some p3)), .n, .h (sS ((List.getD Z i pz).pc.key)), .n, .h (.bool (!(decide (((List.getD Z i pz).pc.key) = key)))), .n] _ [iC Try.f17 [1,1,0,1,0,0,1,0,0,1], .inBlock 1, iC Try.f17 uM2, iL Try.f17 uM0, .inBlock 0, iC Try.f17 uM1] [(0, v), (1, sS key), (5, v'), (6, iN i), (19, .bool (!(decide (((List.getD Z i pz).pc.key) = key))))] w (by kernel_rfl) (.cons o6 (.cons o7 (.cons o8 .nil))) ?_
   refine GoS.cond (!(decide (((List.getD Z i pz).pc.key) = key))) [iC Try.f17 [1,1,0,1,0,0,1,0,0,1,0], .inBlock 1, iC Try.f17 uM2, iL Try.f17 uM0, .inBlock 0, iC Try.f17 uM1] [iC Try.f17 [1,1,0,1,0,0,1,0,0,1,1], .inBlock 1, iC Try.f17 uM2, iL Try.f17 uM0, .inBlock 0, iC Try.f17 uM1] (by kernel_rfl) (fun h9 => ?_) (fun h9 => ?_)
   ·
    have h9p : ¬ (((List.getD Z i pz).pc.key) = key) := of_decide_eq_false (p_nf h9)
    obtain ⟨p10, hp11, hq12⟩ := rd_at (i := ((i : Nat) : Int)) sT43 (hv.kept0 hM.kept) i (by omega) (by first | omega | (dsimp only; omega))
    have o22 : (Instr.indexAt 43 (v) (iN i)).run Try.prog w = .ok (.pointer (some p10)) w := hq12 _ _
    have o23 : (Instr.loadAt 29 (.pointer (some p10))).run Try.prog w = .ok (.agg #[sS ((List.getD Z i pz).pc.key), ((List.getD Z i pz).nums), ((List.getD Z i pz).words)]) w := r_loads (f := pzC) (l := Z) aE29 (hv.kept0 hM.kept) pzC_len hp11 (by first | omega | (dsimp only; omega)) pz
    obtain ⟨v13, w14, hr15, hM16⟩ := m_lit sT43 hM (n := 1) (parts := #[(0, .agg #[sS ((List.getD Z i pz).pc.key), ((List.getD Z i pz).nums), ((List.getD Z i pz).words)])]) (cs := [sS ((List.getD Z i pz).pc.key), ((List.getD Z i pz).nums), ((List.getD Z i pz).words)]) (by decide) (by kernel_rfl) rfl
    obtain ⟨v17, w18, hr19, hM20⟩ := m_append sT43 hM16 1 rfl (hM16.rd 0 rfl) (by intro u hu; simp only [List.mem_cons, List.not_mem_nil, or_false] at hu; rcases hu with rfl | rfl | rfl; exact rfl; exact (hone _ (getD_mem (i := i) (d := pz) (by omega))).1.1; exact (hone _ (getD_mem (i := i) (d := pz) (by omega))).2.1) (by first | omega | ((try dsimp only); omega)) (by first | omega | ((try dsimp only); omega)) 43
    have hM21 : Mem [] w0 w18 [⟨29, 3, v13, 1, [sS ((List.getD Z i pz).pc.key), ((List.getD Z i pz).nums), ((List.getD Z i pz).words)]⟩, ⟨29, 3, v17, (List.length ((woZ key (Z.take i)) ++ ([(List.getD Z i pz)] : List PZ))), (recs pzC ((woZ key (Z.take i)) ++ ([(List.getD Z i pz)] : List PZ)))⟩] := hM20.cast (by simp [ivals, svals, bvals, nvals, u8s, Nat.add_assoc, recs, pzC])
    have hM24 := hM21.sub (sD (sK sR))
    refine GoS.run [0, 1, 5, 6] [.n, .n, .n, .n, .h (.pointer (some p10)), .h (.agg #[sS ((List.getD Z i pz).pc.key), ((List.getD Z i pz).nums), ((List.getD Z i pz).words)]), .u (v13) (w14), .u (v17) (w18), .n, .n] _ [.inBlock 1, iC Try.f17 uM2, iL Try.f17 uM0, .inBlock 0, iC Try.f17 uM1] [(0, v), (1, sS key), (5, v17), (6, iN i)] w18 (by kernel_rfl) (.cons o22 (.cons o23 (.cons hr15 (.cons hr19 .nil)))) ?_
    have o25 : (binOp .add 3 (iN i) (.int .i64 1)).run Try.prog w18 = .ok (iN (i + 1)) w18 := f_add (by rw [show ((i : Nat) : Int) + 1 = (((i + 1) : Nat) : Int) by omega]; exact IntWalk.i64_in _ (by omega))
    refine GoS.run [0, 1, 5, 6] [.n, .n, .n, .h (iN (i + 1)), .n, .n, .n] _ [iC Try.f17 uM0, iL Try.f17 uM0, .inBlock 0, iC Try.f17 uM1] [(0, v), (1, sS key), (5, v17), (6, iN (i + 1))] w18 (by kernel_rfl) (.cons o25 .nil) ?_
    exact ih _ (i + 1) _ (by omega) ((hM24.sub (sK sN)).cast (by rw [wo_on (by omega) h9p])) (by omega)
   ·
    have h9p : ((List.getD Z i pz).pc.key) = key := of_decide_eq_true (p_nt h9)
    refine GoS.run [0, 1, 5, 6] [.n] _ [.inBlock 1, iC Try.f17 uM2, iL Try.f17 uM0, .inBlock 0, iC Try.f17 uM1] [(0, v), (1, sS key), (5, v'), (6, iN i)] w (by kernel_rfl) .nil ?_
    have o26 : (binOp .add 3 (iN i) (.int .i64 1)).run Try.prog w = .ok (iN (i + 1)) w := f_add (by rw [show ((i : Nat) : Int) + 1 = (((i + 1) : Nat) : Int) by omega]; exact IntWalk.i64_in _ (by omega))
    refine GoS.run [0, 1, 5, 6] [.n, .n, .n, .h (iN (i + 1)), .n, .n, .n] _ [iC Try.f17 uM0, iL Try.f17 uM0, .inBlock 0, iC Try.f17 uM1] [(0, v), (1, sS key), (5, v'), (6, iN (i + 1))] w (by kernel_rfl) (.cons o26 .nil) ?_
    exact ih _ (i + 1) _ (by omega) ((hM.sub (sK sN)).cast (by rw [wo_off (by omega) h9p])) (by omega)
  ·
   have h2p : ¬ (((i : Nat) : Int) < (((List.length Z) : Nat) : Int)) := of_decide_eq_false h2
   refine GoS.run [4] [.n, .n, .n, .n, .n, .n] _ [iC Try.f17 [1,1,1,1]] [(4, v')] w (by kernel_rfl) .nil ?_
   refine GoS.ret (fn := Try.f17) (v := (v')) Try.func17 (by kernel_rfl) ?_
   rw [hR]
   exact ⟨_, rfl, hM.cast (by rw [take_all' (by omega)])⟩

set_option maxHeartbeats 400000 in
theorem wo_c {w : World} (v : Value) (key : List UInt8) (Z : List PZ) (hv : Rd w 3 v Z.length (recs pzC Z)) (hz : ∀ z ∈ Z, RdP w z.pc z.nums z.words) (hlz : Z.length ≤ 2000000) :
  Calls Try.prog 17 #[v, sS key] w (fun e w' => ∃ v', e = .returned v' ∧ Mem [] w w' [⟨29, 3, v', (List.length (woZ key Z)), (recs pzC (woZ key Z))⟩]) := by
 obtain ⟨R, hR⟩ : ∃ R : Ending → World → Prop, R = (fun e w' => ∃ v', e = .returned v' ∧ Mem [] w w' [⟨29, 3, v', (List.length (woZ key Z)), (recs pzC (woZ key Z))⟩]) := ⟨_, rfl⟩
 rw [← hR]
 refine GoS.enter (n := 28) Try.func17 (by kernel_rfl) rfl [(0, v), (1, sS key)] (by kernel_rfl) (by kernel_rfl) ?_
 have hM0 := Mem.start w
 refine GoS.run [0, 1, 5, 6] [.n, .n, .n, .n, .n, .n, .n, .n, .n, .n, .n, .n, .n, .n, .n] _ [iC Try.f17 uM0, iL Try.f17 uM0, .inBlock 0, iC Try.f17 uM1] [(0, v), (1, sS key), (5, .slice none 0 0), (6, .int .i64 0)] w (by kernel_rfl) .nil ?_
 have hM1 := hM0.nilrow 29 3
 exact wo_L v key Z hv hz hlz R hR (Z.length + 1) (.slice none 0 0) 0 w (Nat.zero_le _) ((hM1.sub (sK sN)).cast (by first | rfl | simp [recs, woZ])) (by omega)

set_option maxHeartbeats 400000 in
theorem rhas_c {w : World} (v : Value) (key : List UInt8) (Z : List PZ) (hv : Rd w 3 v Z.length (recs pzC Z)) (hz : ∀ z ∈ Z, RdP w z.pc z.nums z.words) (hlz : Z.length ≤ 2000000) :
  Calls Try.prog 16 #[v, sS key] w (fun e w' => e = .returned (.bool (decide ((((woZ key Z).length : Nat) : Int) < ((Z.length : Nat) : Int)))) ∧ Mem [] w w' []) := by
 obtain ⟨R, hR⟩ : ∃ R : Ending → World → Prop, R = (fun e w' => e = .returned (.bool (decide ((((woZ key Z).length : Nat) : Int) < ((Z.length : Nat) : Int)))) ∧ Mem [] w w' []) := ⟨_, rfl⟩
 rw [← hR]
 refine GoS.enter (n := 12) Try.func16 (by kernel_rfl) rfl [(0, v), (1, sS key)] (by kernel_rfl) (by kernel_rfl) ?_
 have hM0 := Mem.start w
 refine GoS.run [0, 5, 6] [.n, .n, .n, .n, .n, .n, .n, .n] _ [.inRegion (cops (csub (cd Try.f16) [1,0])) [2,3,4,5,6,7], iC Try.f16 [1,1]] [(0, v), (5, v), (6, sS key)] w (by kernel_rfl) .nil ?_
 refine GoS.call [0] 17 #[v, sS key] (some 7) [.inRegion (cops (csub (cd Try.f16) [1,0])) [3,4,5,6,7], iC Try.f16 [1,1]] [(0, v)] (by kernel_rfl) (wo_c v key Z (hv.kept0 hM0.kept) (fun z hq => (hz z hq).kept hM0.kept) hlz) ?_
 rintro _ w1 ⟨v4, rfl, m2⟩
 refine ⟨_, rfl, ?_⟩
 have hM3 : Mem [] w w1 [⟨29, 3, v4, (List.length (woZ key Z)), (recs pzC (woZ key Z))⟩] := Mem.join hM0 m2
 have o5 : (Builtin.len_ #[43] 3 #[v4]).run Try.prog w1 = .ok (iN (List.length (woZ key Z))) w1 := f_slen sT43 (hM3.rd 0 rfl) 3 _
 have o6 : (Builtin.len_ #[43] 3 #[v]).run Try.prog w1 = .ok (iN (List.length Z)) w1 := f_slen sT43 (hv.kept0 hM3.kept) 3 _
 have hM7 := hM3.sub (sD sR)
 refine GoS.run [4] [.h (iN (List.length (woZ key Z))), .n, .h (iN (List.length Z)), .n, .n, .n] _ [iC Try.f16 [1,1]] [(4, .bool (decide ((((List.length (woZ key Z)) : Nat) : Int) < (((List.length Z) : Nat) : Int))))] w1 (by kernel_rfl) (.cons o5 (.cons o6 .nil)) ?_
 refine GoS.ret (fn := Try.f16) (v := (.bool (decide ((((List.length (woZ key Z)) : Nat) : Int) < (((List.length Z) : Nat) : Int))))) Try.func16 (by kernel_rfl) ?_
 rw [hR]
 exact ⟨rfl, hM7.sub sN⟩


end Go.Proofs.Ytcdcehjilneifaa
