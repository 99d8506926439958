/-
  'Rows.BufferOrderSaid' is proved: for every input that the row speaks of the law answers true, and its arguments read as they did. No further condition.
-/
import Derived.Test.YtcdcehjilneifaaRows
import Derived.Test.YtcdcehjilneifaaPcOr
import Derived.Test.YtcdcehjilneifaaFrame
import Derived.Test.YtcdcehjilneifaaPcFr
namespace Go.Proofs.Ytcdcehjilneifaa.bufferOrder
open Go.ChangeShapes Go.WideShapes Go.ChangeAt Go.RowKit Go.Gw Go.PcP
open Go.ChangeMaps (open_string shut_string)
set_option linter.unusedVariables false
set_option linter.unusedSimpArgs false

theorem own : ownKnob Try.prog.godebug = none := by kernel_rfl
theorem laidOut : laidOutB Try.prog = true := by kernel_rfl

theorem pcTy : PcTy Try.prog 57 22 60 23 79 64 68 27 := ⟨⟨_, _, Try.underlying57, by kernel_rfl, Try.underlying9, Try.underlying9, by kernel_rfl, by kernel_rfl, rfl, rfl⟩, Try.underlying22, ⟨_, _, Try.underlying60, by kernel_rfl, Try.underlying9, Try.underlying58, by kernel_rfl, by kernel_rfl, rfl, rfl⟩, Try.underlying23, ⟨_, _, Try.underlying79, by kernel_rfl, Try.underlying9, Try.underlying3, by kernel_rfl, by kernel_rfl, rfl, rfl⟩, Try.underlying64, ⟨_, _, Try.underlying68, by kernel_rfl, Try.underlying9, Try.underlying64, by kernel_rfl, by kernel_rfl, rfl, rfl⟩, Try.underlying27, by kernel_rfl, by kernel_rfl, by kernel_rfl, by kernel_rfl⟩

theorem walk (W : World) (d0 : Dc) (fv0 nv0 : Value) (R0 : DocR W d0 fv0 nv0) (v1 : Value) (l1 : List (List UInt8)) (hv1 : Rd W 1 v1 l1.length (svals l1)) :
    Calls Try.prog 5 #[.agg #[.string (sb d0.key), fv0, nv0], v1] W fun e W' => e = .returned (.bool true) ∧ Below W.heap.size W W' := by
  exact lorder_c d0 fv0 nv0 v1 l1 R0.f R0.n hv1 (Nat.le_trans R0.lf (by decide)) (Nat.le_trans R0.ln (by decide))

set_option maxRecDepth 100000 in
theorem lifted (os : Os) (started : os.Started) (H : Type) (enc : TypeId × Value → H) :
    ReturnsInHanded {} Try.checked os 5 .any (Rows.bufferOrderSpec.pre6 enc Try.prog Try.f5 Rows.bufferOrderRow.domain false) (Rows.bufferOrderSpec.post enc Try.prog Try.f5 false true false false) := by
  refine returnsInHanded_of_change_sized (C := Try.checked) own started (by kernel_rfl) Try.func5
    (ChangeSpec.witness6 (enc := enc) (C := Try.checked) false ⟨#[], #[.agg #[.string ByteArray.empty, .slice none 0 0, .slice none 0 0], .slice none 0 0], []⟩ 8 (by kernel_rfl) (by kernel_rfl) (by kernel_rfl) (by kernel_rfl)) ?_
  intro W base args ds gs before hval0 hW hcnd hsz0 _
  have hsz : (DataW.weightsEach Try.prog (Try.f5.params.toList ++ Rows.bufferOrderSpec.plain.varTypes Try.prog) (ds ++ gs)).all (· ≤ reachBytes) = true := hsz0
  clear hsz0
  have hval : ∀ (j : Nat) t v, Try.f5.params[j]? = some t → args[j]? = some v → Value.okWide Try.prog W .any base t v := hval0
  have hW' := hW
  obtain ⟨p, q, hA0, hV, rfl, hfz, hnd⟩ := hW
  have hA : DataW.TrodAll enc Try.prog W 0 (fun _ => true) true Try.f5.params.toList args.toList ds p := hA0
  rw [Try.params5] at hA hval hsz
  obtain ⟨v0, vs0, d0, ds0, p0, q0, hargs, rfl, rfl, h0, t0⟩ := trodAll_cons hA
  obtain ⟨v1, vs1, d1, ds1, p1, q1, rfl, rfl, rfl, h1, t1⟩ := trodAll_cons t0
  obtain ⟨rfl, rfl, rfl⟩ := trodAll_nil t1
  obtain rfl : args = #[v0, v1] := by cases args; simp_all
  obtain ⟨rfl, rfl⟩ := trodVars_none hV
  have k0 := h0
  have lt0 : ∀ x ∈ p0, x.block < W.heap.size := by obtain ⟨m, hm⟩ := k0; exact DataW.trod_lt m _ _ _ hm
  have hb0 : Wt Try.prog 25 d0 := wt_arg (j := 0) hsz rfl rfl
  obtain ⟨D0, fv0, nv0, rfl, R0⟩ := open_doc ⟨_, _, _, Try.underlying25, by kernel_rfl, rfl, rfl, rfl, by kernel_rfl, by kernel_rfl, by kernel_rfl, rfl, rfl, rfl⟩ Try.underlying9 pcTy (hval 0 25 v0 rfl rfl) h0 hb0
  have k1 := h1
  have lt1 : ∀ x ∈ p1, x.block < W.heap.size := by obtain ⟨m, hm⟩ := k1; exact DataW.trod_lt m _ _ _ hm
  have hb1 : Wt Try.prog 55 d1 := wt_arg (j := 1) hsz rfl rfl
  obtain ⟨b1, len1, cap1, rfl⟩ := okWide_slice Try.underlying55 (hval 1 55 v1 rfl rfl)
  obtain ⟨fu1, hf1⟩ := h1
  obtain ⟨l1, hv1⟩ := strs_of Try.underlying9 (by kernel_rfl) Try.underlying55 hf1 hb1
  clear hA0 hval0
  have key := walk W D0 fv0 nv0 R0 _ l1 hv1
  refine key.mono fun e W' ⟨he, bel⟩ => ?_
  subst he
  exact ⟨_, rfl, _, _, _, [], _, [], hW', trodAll_mk1 (shut_bool Try.underlying4 _), (trodAll_cons_mk (Below.trod laidOut (by kernel_rfl) (of_decide_eq_true (by kernel_rfl)) k0 bel lt0) (trodAll_cons_mk (Below.trod laidOut (by kernel_rfl) (of_decide_eq_true (by kernel_rfl)) k1 bel lt1) trodAll_mk0)), rfl, bel.frame _, fun h => by cases h⟩

theorem over : Rows.bufferOrderRow.holds Try.pinned (OpenSpec.ofChange Rows.bufferOrderSpec) :=
  OpenClaim.holds_of_wide 5 Try.f5 rfl rfl rfl rfl rfl rfl rfl ⟨rfl, rfl, rfl, rfl, rfl⟩ rfl rfl rfl rfl rfl (by kernel_rfl) Try.func5 (by kernel_rfl)
    (of_decide_eq_true (by kernel_rfl)) (by unfold Func.isWrapper; first | (rw [if_pos (by decide +kernel)]; kernel_rfl) | (rw [if_neg (by decide +kernel)]; exact ⟨rfl, rfl⟩))
    (fun os started H enc _ => lifted os started H enc)

theorem proved : Rows.BufferOrderSaid := over
#print axioms proved
end Go.Proofs.Ytcdcehjilneifaa.bufferOrder
