/-
  'Rows.TopkBetterSaid' is proved: for every input that the row speaks of the law answers true, and its arguments read as they did. No further condition.
-/
import Derived.Test.YtbammppeneoffaaRows
import Derived.Test.YtbammppeneoffaaTopG
import Derived.Test.YtbammppeneoffaaFrame
import Derived.Test.YtbammppeneoffaaHitF
namespace Go.Proofs.Ytbammppeneoffaa.topkBetter
open Go.ChangeShapes Go.WideShapes Go.ChangeAt Go.RowKit Go.Gw Go.HitP
open Go.ChangeMaps (open_string shut_string)
set_option linter.unusedVariables false
set_option linter.unusedSimpArgs false

theorem own : ownKnob Try.prog.godebug = none := by kernel_rfl
theorem laidOut : laidOutB Try.prog = true := by kernel_rfl

theorem walk (W : World) (x0 : Hit) (x1 : Hit) (x2 : Hit) :
    Calls Try.prog 5 #[.agg #[.string (sb x0.key), .int .i64 x0.score], .agg #[.string (sb x1.key), .int .i64 x1.score], .agg #[.string (sb x2.key), .int .i64 x2.score]] W fun e W' => e = .returned (.bool true) ∧ Below W.heap.size W W' := by
  exact lbetter_c x0 x1 x2 W

set_option maxRecDepth 100000 in
theorem lifted (os : Os) (started : os.Started) (H : Type) (enc : TypeId × Value → H) :
    ReturnsInHanded {} Try.checked os 5 .any (Rows.topkBetterSpec.pre6 enc Try.prog Try.f5 Rows.topkBetterRow.domain false) (Rows.topkBetterSpec.post enc Try.prog Try.f5 false true false false) := by
  refine returnsInHanded_of_change_sized (C := Try.checked) own started (by kernel_rfl) Try.func5
    (ChangeSpec.witness6 (enc := enc) (C := Try.checked) false ⟨#[], #[.agg #[.string ByteArray.empty, .int .i64 0], .agg #[.string ByteArray.empty, .int .i64 0], .agg #[.string ByteArray.empty, .int .i64 0]], []⟩ 8 (by kernel_rfl) (by kernel_rfl) (by kernel_rfl) (by kernel_rfl)) ?_
  intro W base args ds gs before hval0 hW hcnd hsz0 _
  have hsz : (DataW.weightsEach Try.prog (Try.f5.params.toList ++ Rows.topkBetterSpec.plain.varTypes Try.prog) (ds ++ gs)).all (· ≤ reachBytes) = true := hsz0
  clear hsz0
  have hval : ∀ (j : Nat) t v, Try.f5.params[j]? = some t → args[j]? = some v → Value.okWide Try.prog W .any base t v := hval0
  have hW' := hW
  obtain ⟨p, q, hA0, hV, rfl, hfz, hnd⟩ := hW
  have hA : DataW.TrodAll enc Try.prog W 0 (fun _ => true) true Try.f5.params.toList args.toList ds p := hA0
  rw [Try.params5] at hA hval hsz
  obtain ⟨v0, vs0, d0, ds0, p0, q0, hargs, rfl, rfl, h0, t0⟩ := trodAll_cons hA
  obtain ⟨v1, vs1, d1, ds1, p1, q1, rfl, rfl, rfl, h1, t1⟩ := trodAll_cons t0
  obtain ⟨v2, vs2, d2, ds2, p2, q2, rfl, rfl, rfl, h2, t2⟩ := trodAll_cons t1
  obtain ⟨rfl, rfl, rfl⟩ := trodAll_nil t2
  obtain rfl : args = #[v0, v1, v2] := by cases args; simp_all
  obtain ⟨rfl, rfl⟩ := trodVars_none hV
  have k0 := h0
  obtain ⟨x0, rfl, rfl⟩ := open_hit Try.underlying31 (by kernel_rfl) Try.underlying9 Try.underlying3 (by kernel_rfl) (by kernel_rfl) rfl rfl (hval 0 31 v0 rfl rfl) h0
  have k1 := h1
  obtain ⟨x1, rfl, rfl⟩ := open_hit Try.underlying31 (by kernel_rfl) Try.underlying9 Try.underlying3 (by kernel_rfl) (by kernel_rfl) rfl rfl (hval 1 31 v1 rfl rfl) h1
  have k2 := h2
  obtain ⟨x2, rfl, rfl⟩ := open_hit Try.underlying31 (by kernel_rfl) Try.underlying9 Try.underlying3 (by kernel_rfl) (by kernel_rfl) rfl rfl (hval 2 31 v2 rfl rfl) h2
  clear hA0 hval0
  have key := walk W x0 x1 x2
  refine key.mono fun e W' ⟨he, bel⟩ => ?_
  subst he
  exact ⟨_, rfl, _, _, _, [], _, [], hW', trodAll_mk1 (shut_bool Try.underlying4 _), (trodAll_cons_mk (Below.trod laidOut (by kernel_rfl) (of_decide_eq_true (by kernel_rfl)) k0 bel (fun x hx => absurd hx (List.not_mem_nil))) (trodAll_cons_mk (Below.trod laidOut (by kernel_rfl) (of_decide_eq_true (by kernel_rfl)) k1 bel (fun x hx => absurd hx (List.not_mem_nil))) (trodAll_cons_mk (Below.trod laidOut (by kernel_rfl) (of_decide_eq_true (by kernel_rfl)) k2 bel (fun x hx => absurd hx (List.not_mem_nil))) trodAll_mk0))), rfl, bel.frame _, fun h => by cases h⟩

theorem over : Rows.topkBetterRow.holds Try.pinned (OpenSpec.ofChange Rows.topkBetterSpec) :=
  OpenClaim.holds_of_wide 5 Try.f5 rfl rfl rfl rfl rfl rfl rfl ⟨rfl, rfl, rfl, rfl, rfl⟩ rfl rfl rfl rfl rfl (by kernel_rfl) Try.func5 (by kernel_rfl)
    (of_decide_eq_true (by kernel_rfl)) (by unfold Func.isWrapper; first | (rw [if_pos (by decide +kernel)]; kernel_rfl) | (rw [if_neg (by decide +kernel)]; exact ⟨rfl, rfl⟩))
    (fun os started H enc _ => lifted os started H enc)

theorem proved : Rows.TopkBetterSaid := over
#print axioms proved
end Go.Proofs.Ytbammppeneoffaa.topkBetter
