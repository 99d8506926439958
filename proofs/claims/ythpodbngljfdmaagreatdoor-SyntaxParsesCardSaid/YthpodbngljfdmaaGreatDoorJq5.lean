/-
  Joined texts. No condition beyond those that each theorem names. What they say:
  The walk of SyntaxParses.
-/
import Derived.Test.YthpodbngljfdmaaGreatDoorJq4
namespace Go.Proofs.YthpodbngljfdmaaGreatDoor
open Go Go.Gw Go.UtfP Go.TokP Go.QryP Go.SynP Go.RealQ Go.SynV Go.RdrP Go.SpoP Go.RowKit
set_option linter.unusedVariables false
set_option linter.unusedSimpArgs false
set_option maxRecDepth 20000


set_option maxHeartbeats 2000000 in
theorem lparses22_c (s : List UInt8) (hs : s.length ≤ 140737488351232) {w : World} (hG : GS [] w) :
  Calls Tryz.prog 4 #[sS s] w (fun e w' => e = .returned (.bool true) ∧ Below w.heap.size w w') := by
 refine xe 53 Tryz.func4 (fun R hR => ?_)
 have hM0 := Mem.start w
 refine xcg 7 (synparse_c s (by omega) (hG.kept hM0.kept)) ?_
 rintro _ w4 ⟨h1, u2, T3, rfl, he5, hqt6, m7⟩
 refine ⟨_, rfl, ?_⟩
 have hpb_ := parse_bulk s
 have hM8 : Mem [] w w4 (T3) := Mem.join0 (A := []) hM0 m7
 refine xx 4 (m_alloc oT25 hM8) (fun b9 w10 hM12 => ?_)
 refine xst 0 (c_stores (ys := [.int .i64 (h1.op), sS (h1.field), sS (h1.text), .int .i64 (h1.edits), .int .i64 (h1.exact), .int .u64 (h1.lo), .int .u64 (h1.hi), u2]) aE25 hM12 0 rfl (cel_obj b9 0) rfl (by decide) (by intro u hu; simp at hu; rcases hu with rfl | rfl | rfl | rfl | rfl | rfl | rfl | rfl <;> first | rfl | exact (QT.rd hM12 (fun r_ h_ => mS (h_)) hqt6).one.1)) (fun w14 hM16 => ?_)
 refine xcg 6 (rsynparse_c (w := w14) s (by omega)) ?_
 rintro _ w22 ⟨h19, u20, T21, rfl, he23, hqt24, m25⟩
 refine ⟨_, rfl, ?_⟩
 have hpb_ := parse_bulk s
 have hM26 : Mem [] w w22 (⟨25, 8, (obj b9), 1, [.int .i64 (h1.op), sS (h1.field), sS (h1.text), .int .i64 (h1.edits), .int .i64 (h1.exact), .int .u64 (h1.lo), .int .u64 (h1.hi), u2]⟩ :: (T21 ++ T3)) := Mem.joinT (A := [⟨25, 8, (obj b9), 1, [.int .i64 (h1.op), sS (h1.field), sS (h1.text), .int .i64 (h1.edits), .int .i64 (h1.exact), .int .u64 (h1.lo), .int .u64 (h1.hi), u2]⟩]) (T := T3) hM16 m25
 refine xx 4 (m_alloc oT25 hM26) (fun b27 w28 hM30 => ?_)
 refine xst 0 (c_stores (ys := [.int .i64 (h19.op), sS (h19.field), sS (h19.text), .int .i64 (h19.edits), .int .i64 (h19.exact), .int .u64 (h19.lo), .int .u64 (h19.hi), u20]) aE25 hM30 0 rfl (cel_obj b27 0) rfl (by decide) (by intro u hu; simp at hu; rcases hu with rfl | rfl | rfl | rfl | rfl | rfl | rfl | rfl <;> first | rfl | exact (QT.rd hM30 (fun r_ h_ => mS (mS (List.mem_append_left _ (h_)))) hqt24).one.1)) (fun w32 hM34 => ?_)
 refine xcg 6 (synparse_c s (by omega) (hG.kept hM34.kept)) ?_
 rintro _ w40 ⟨h37, u38, T39, rfl, he41, hqt42, m43⟩
 refine ⟨_, rfl, ?_⟩
 have hpb_ := parse_bulk s
 have hM44 : Mem [] w w40 (⟨25, 8, (obj b27), 1, [.int .i64 (h19.op), sS (h19.field), sS (h19.text), .int .i64 (h19.edits), .int .i64 (h19.exact), .int .u64 (h19.lo), .int .u64 (h19.hi), u20]⟩ :: ⟨25, 8, (obj b9), 1, [.int .i64 (h1.op), sS (h1.field), sS (h1.text), .int .i64 (h1.edits), .int .i64 (h1.exact), .int .u64 (h1.lo), .int .u64 (h1.hi), u2]⟩ :: ((T39 ++ T21) ++ T3)) := (Mem.joinT (A := [⟨25, 8, (obj b27), 1, [.int .i64 (h19.op), sS (h19.field), sS (h19.text), .int .i64 (h19.edits), .int .i64 (h19.exact), .int .u64 (h19.lo), .int .u64 (h19.hi), u20]⟩, ⟨25, 8, (obj b9), 1, [.int .i64 (h1.op), sS (h1.field), sS (h1.text), .int .i64 (h1.edits), .int .i64 (h1.exact), .int .u64 (h1.lo), .int .u64 (h1.hi), u2]⟩]) (T := (T21 ++ T3)) hM34 m43).cast (by rw [List.append_assoc]; rfl)
 refine xx 4 (m_alloc oT25 hM44) (fun b45 w46 hM48 => ?_)
 refine xst 0 (c_stores (ys := [.int .i64 (h37.op), sS (h37.field), sS (h37.text), .int .i64 (h37.edits), .int .i64 (h37.exact), .int .u64 (h37.lo), .int .u64 (h37.hi), u38]) aE25 hM48 0 rfl (cel_obj b45 0) rfl (by decide) (by intro u hu; simp at hu; rcases hu with rfl | rfl | rfl | rfl | rfl | rfl | rfl | rfl <;> first | rfl | exact (QT.rd hM48 (fun r_ h_ => mS (mS (mS (List.mem_append_left _ (List.mem_append_left _ (h_)))))) hqt42).one.1)) (fun w50 hM52 => ?_)
 refine xk 6 (awake_c (hG.kept hM52.kept)) (fun w55 m56 => ?_)
 have hM57 : Mem [] w w55 (⟨25, 8, (obj b45), 1, [.int .i64 (h37.op), sS (h37.field), sS (h37.text), .int .i64 (h37.edits), .int .i64 (h37.exact), .int .u64 (h37.lo), .int .u64 (h37.hi), u38]⟩ :: ⟨25, 8, (obj b27), 1, [.int .i64 (h19.op), sS (h19.field), sS (h19.text), .int .i64 (h19.edits), .int .i64 (h19.exact), .int .u64 (h19.lo), .int .u64 (h19.hi), u20]⟩ :: ⟨25, 8, (obj b9), 1, [.int .i64 (h1.op), sS (h1.field), sS (h1.text), .int .i64 (h1.edits), .int .i64 (h1.exact), .int .u64 (h1.lo), .int .u64 (h1.hi), u2]⟩ :: ((T39 ++ T21) ++ T3)) := Mem.join (R := []) hM52 m56
 refine xp 4 (.bool false) (w' := w55) (show (IntKind.i64 = IntKind.i64) ∧ w55 = w55 ∧ Value.bool false = .bool ((((parseQ s).2.1 : Nat) : Int) != (((parseQ s).2.1 : Nat) : Int)) from ⟨rfl, rfl, congrArg Value.bool (Eq.symm (bne_self_eq_false _))⟩) ?_
 refine xp 4 (.bool false) (w' := w55) (show (IntKind.i64 = IntKind.i64) ∧ w55 = w55 ∧ Value.bool false = .bool ((parseQ s).2.2 != (parseQ s).2.2) from ⟨rfl, rfl, congrArg Value.bool (Eq.symm (bne_self_eq_false _))⟩) ?_
 refine xv 2 (c_loads (ys := [.int .i64 (h1.op), sS (h1.field), sS (h1.text), .int .i64 (h1.edits), .int .i64 (h1.exact), .int .u64 (h1.lo), .int .u64 (h1.hi), u2]) aE25 (hM57.rd 2 rfl) (cel_obj b9 0) rfl (lq rfl)) ?_
 refine xv 0 (c_loads (ys := [.int .i64 (h19.op), sS (h19.field), sS (h19.text), .int .i64 (h19.edits), .int .i64 (h19.exact), .int .u64 (h19.lo), .int .u64 (h19.hi), u20]) aE25 (hM57.rd 1 rfl) (cel_obj b27 0) rfl (lq rfl)) ?_
 refine xk 0 (rsame_c (parseQ s).1 h1 he5 u2 (QT.rd hM57 (fun r_ h_ => mS (mS (mS (List.mem_append_right _ (h_))))) hqt6) (by omega) (parseQ s).1 h19 he23 u20 (QT.rd hM57 (fun r_ h_ => mS (mS (mS (List.mem_append_left _ (List.mem_append_right _ (h_)))))) hqt24) (by omega)) (fun w62 m63 => ?_)
 have hM64 : Mem [] w w62 (⟨25, 8, (obj b45), 1, [.int .i64 (h37.op), sS (h37.field), sS (h37.text), .int .i64 (h37.edits), .int .i64 (h37.exact), .int .u64 (h37.lo), .int .u64 (h37.hi), u38]⟩ :: ⟨25, 8, (obj b27), 1, [.int .i64 (h19.op), sS (h19.field), sS (h19.text), .int .i64 (h19.edits), .int .i64 (h19.exact), .int .u64 (h19.lo), .int .u64 (h19.hi), u20]⟩ :: ⟨25, 8, (obj b9), 1, [.int .i64 (h1.op), sS (h1.field), sS (h1.text), .int .i64 (h1.edits), .int .i64 (h1.exact), .int .u64 (h1.lo), .int .u64 (h1.hi), u2]⟩ :: ((T39 ++ T21) ++ T3)) := Mem.join (R := []) hM57 m63
 refine xb 3 (!(sameQ ((parseQ s).1) ((parseQ s).1))) (fun h65 => ?_) (fun h65 => ?_)
 ·
  have e_ : (sameQ ((parseQ s).1) ((parseQ s).1)) = true := same_refl _
  rw [e_] at h65; exact absurd h65 (by decide)
 ·
  refine xv 3 (c_loads (ys := [.int .i64 (h1.op), sS (h1.field), sS (h1.text), .int .i64 (h1.edits), .int .i64 (h1.exact), .int .u64 (h1.lo), .int .u64 (h1.hi), u2]) aE25 (hM64.rd 2 rfl) (cel_obj b9 0) rfl (lq rfl)) ?_
  have hM67 := hM64.sub (sK (sK (sD sR)))
  refine xcg 0 (spoil_c _ T3 h1 u2 (sp_of hqt6) (Mem.lendLast (A := [⟨25, 8, (obj b45), 1, [.int .i64 (h37.op), sS (h37.field), sS (h37.text), .int .i64 (h37.edits), .int .i64 (h37.exact), .int .u64 (h37.lo), .int .u64 (h37.hi), u38]⟩, ⟨25, 8, (obj b27), 1, [.int .i64 (h19.op), sS (h19.field), sS (h19.text), .int .i64 (h19.edits), .int .i64 (h19.exact), .int .u64 (h19.lo), .int .u64 (h19.hi), u20]⟩]) (X := (T39 ++ T21)) hM67)) ?_
  rintro _ w68 ⟨rfl, T69, hs70, m71⟩
  refine ⟨_, rfl, ?_⟩
  have hM72 : Mem [] w w68 (⟨25, 8, (obj b45), 1, [.int .i64 (h37.op), sS (h37.field), sS (h37.text), .int .i64 (h37.edits), .int .i64 (h37.exact), .int .u64 (h37.lo), .int .u64 (h37.hi), u38]⟩ :: ⟨25, 8, (obj b27), 1, [.int .i64 (h19.op), sS (h19.field), sS (h19.text), .int .i64 (h19.edits), .int .i64 (h19.exact), .int .u64 (h19.lo), .int .u64 (h19.hi), u20]⟩ :: (T39 ++ T21)) := Mem.dropLast (A := [⟨25, 8, (obj b45), 1, [.int .i64 (h37.op), sS (h37.field), sS (h37.text), .int .i64 (h37.edits), .int .i64 (h37.exact), .int .u64 (h37.lo), .int .u64 (h37.hi), u38]⟩, ⟨25, 8, (obj b27), 1, [.int .i64 (h19.op), sS (h19.field), sS (h19.text), .int .i64 (h19.edits), .int .i64 (h19.exact), .int .u64 (h19.lo), .int .u64 (h19.hi), u20]⟩]) (X := (T39 ++ T21)) hM67 m71
  refine xv 3 (c_loads (ys := [.int .i64 (h37.op), sS (h37.field), sS (h37.text), .int .i64 (h37.edits), .int .i64 (h37.exact), .int .u64 (h37.lo), .int .u64 (h37.hi), u38]) aE25 (hM72.rd 0 rfl) (cel_obj b45 0) rfl (lq rfl)) ?_
  refine xv 0 (c_loads (ys := [.int .i64 (h19.op), sS (h19.field), sS (h19.text), .int .i64 (h19.edits), .int .i64 (h19.exact), .int .u64 (h19.lo), .int .u64 (h19.hi), u20]) aE25 (hM72.rd 1 rfl) (cel_obj b27 0) rfl (lq rfl)) ?_
  have hM75 := hM72.sub (sD (sD sR))
  refine xk 0 (rsame_c (parseQ s).1 h37 he41 u38 (QT.rd hM75 (fun r_ h_ => List.mem_append_left _ (h_)) hqt42) (by omega) (parseQ s).1 h19 he23 u20 (QT.rd hM75 (fun r_ h_ => List.mem_append_right _ (h_)) hqt24) (by omega)) (fun w76 m77 => ?_)
  have hM78 : Mem [] w w76 ((T39 ++ T21)) := Mem.join (R := []) hM75 m77
  exact xr 2 (v := .bool (sameQ ((parseQ s).1) ((parseQ s).1))) Tryz.func4 hR ⟨ret_bool (same_refl _), hM78.none.below⟩


end Go.Proofs.YthpodbngljfdmaaGreatDoor

