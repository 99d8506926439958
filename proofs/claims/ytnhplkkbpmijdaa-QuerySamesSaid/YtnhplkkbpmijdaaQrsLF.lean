/-
  'Rows.QuerySamesSaid' is proved: for every input that the row speaks of the law answers true, and its arguments read as they did. No further condition.
-/
import Derived.Test.YtnhplkkbpmijdaaRows
import Derived.Test.YtnhplkkbpmijdaaQrsL
import Derived.Test.YtnhplkkbpmijdaaFrame
import Derived.Test.YtnhplkkbpmijdaaQryW
namespace Go.Proofs.Ytnhplkkbpmijdaa.querySames
open Go.ChangeShapes Go.WideShapes Go.ChangeAt Go.RowKit Go.Gw Go.QryP
open Go.ChangeMaps (open_string shut_string)
set_option linter.unusedVariables false
set_option linter.unusedSimpArgs false

theorem own : ownKnob Try.prog.godebug = none := by kernel_rfl
theorem laidOut : laidOutB Try.prog = true := by kernel_rfl

theorem walk (W : World) (z0 : QN) (q0 : Q) (e0 : z0.h = q0.h) (hq0 : RdQ W q0 z0.parts) (z1 : QN) (q1 : Q) (e1 : z1.h = q1.h) (hq1 : RdQ W q1 z1.parts) :
    Calls Try.prog 4 #[.agg #[.int .i64 z0.h.op, .string (sb z0.h.field), .string (sb z0.h.text), .int .i64 z0.h.edits, .int .i64 z0.h.exact, .int .u64 z0.h.lo, .int .u64 z0.h.hi, z0.parts], .agg #[.int .i64 z1.h.op, .string (sb z1.h.field), .string (sb z1.h.text), .int .i64 z1.h.edits, .int .i64 z1.h.exact, .int .u64 z1.h.lo, .int .u64 z1.h.hi, z1.parts]] W fun e W' => e = .returned (.bool true) ∧ Below W.heap.size W W' := by
  exact Go.Proofs.Ytnhplkkbpmijdaa.zlsames_c q0 z0.h e0 z0.parts hq0 trivial q1 z1.h e1 z1.parts hq1 trivial

set_option maxRecDepth 100000 in
theorem lifted (os : Os) (started : os.Started) (H : Type) (enc : TypeId × Value → H) :
    ReturnsInHanded {} Try.checked os 4 .any (Rows.querySamesSpec.pre6 enc Try.prog Try.f4 Rows.querySamesRow.domain false) (Rows.querySamesSpec.post enc Try.prog Try.f4 false true false false) := by
  refine returnsInHanded_of_change_sized (C := Try.checked) own started (by kernel_rfl) Try.func4
    (ChangeSpec.witness6 (enc := enc) (C := Try.checked) false ⟨#[], #[.agg #[.int .i64 0, .string ByteArray.empty, .string ByteArray.empty, .int .i64 0, .int .i64 0, .int .u64 0, .int .u64 0, .slice none 0 0], .agg #[.int .i64 0, .string ByteArray.empty, .string ByteArray.empty, .int .i64 0, .int .i64 0, .int .u64 0, .int .u64 0, .slice none 0 0]], []⟩ 8 (by kernel_rfl) (by kernel_rfl) (by kernel_rfl) (by kernel_rfl)) ?_
  intro W base args ds gs before hval0 hW hcnd hsz0 _
  have hsz : (DataW.weightsEach Try.prog (Try.f4.params.toList ++ Rows.querySamesSpec.plain.varTypes Try.prog) (ds ++ gs)).all (· ≤ reachBytes) = true := hsz0
  clear hsz0
  have hval : ∀ (j : Nat) t v, Try.f4.params[j]? = some t → args[j]? = some v → Value.okWide Try.prog W .any base t v := hval0
  have hW' := hW
  obtain ⟨p, q, hA0, hV, rfl, hfz, hnd⟩ := hW
  have hA : DataW.TrodAll enc Try.prog W 0 (fun _ => true) true Try.f4.params.toList args.toList ds p := hA0
  rw [Try.params4] at hA hval hsz
  obtain ⟨v0, vs0, d0, ds0, p0, q0, hargs, rfl, rfl, h0, t0⟩ := trodAll_cons hA
  obtain ⟨v1, vs1, d1, ds1, p1, q1, rfl, rfl, rfl, h1, t1⟩ := trodAll_cons t0
  obtain ⟨rfl, rfl, rfl⟩ := trodAll_nil t1
  obtain rfl : args = #[v0, v1] := by cases args; simp_all
  obtain ⟨rfl, rfl⟩ := trodVars_none hV
  have k0 := h0
  have lt0 : ∀ x ∈ p0, x.block < W.heap.size := by obtain ⟨m, hm⟩ := k0; exact DataW.trod_lt m _ _ _ hm
  obtain ⟨z0, q0, rfl, e0, hq0⟩ := open_query_w ⟨_, _, _, _, _, _, _, _, Try.underlying25, by kernel_rfl, ⟨Try.underlying3, Try.underlying9, Try.underlying9, Try.underlying3, Try.underlying3, Try.underlying22, Try.underlying22, Try.underlying23⟩, ⟨by kernel_rfl, by kernel_rfl, by kernel_rfl, by kernel_rfl, by kernel_rfl, by kernel_rfl, by kernel_rfl, by kernel_rfl⟩, ⟨rfl, rfl, rfl, rfl, rfl, rfl, rfl, rfl⟩⟩ (hval 0 25 v0 rfl rfl) h0
  have k1 := h1
  have lt1 : ∀ x ∈ p1, x.block < W.heap.size := by obtain ⟨m, hm⟩ := k1; exact DataW.trod_lt m _ _ _ hm
  obtain ⟨z1, q1, rfl, e1, hq1⟩ := open_query_w ⟨_, _, _, _, _, _, _, _, Try.underlying25, by kernel_rfl, ⟨Try.underlying3, Try.underlying9, Try.underlying9, Try.underlying3, Try.underlying3, Try.underlying22, Try.underlying22, Try.underlying23⟩, ⟨by kernel_rfl, by kernel_rfl, by kernel_rfl, by kernel_rfl, by kernel_rfl, by kernel_rfl, by kernel_rfl, by kernel_rfl⟩, ⟨rfl, rfl, rfl, rfl, rfl, rfl, rfl, rfl⟩⟩ (hval 1 25 v1 rfl rfl) h1
  clear hA0 hval0
  have key := walk W z0 q0 e0 hq0 z1 q1 e1 hq1
  refine key.mono fun e W' ⟨he, bel⟩ => ?_
  subst he
  exact ⟨_, rfl, _, _, _, [], _, [], hW', trodAll_mk1 (shut_bool Try.underlying4 _), (trodAll_cons_mk (Below.trod laidOut (by kernel_rfl) (of_decide_eq_true (by kernel_rfl)) k0 bel lt0) (trodAll_cons_mk (Below.trod laidOut (by kernel_rfl) (of_decide_eq_true (by kernel_rfl)) k1 bel lt1) trodAll_mk0)), rfl, bel.frame _, fun h => by cases h⟩

theorem over : Rows.querySamesRow.holds Try.pinned (OpenSpec.ofChange Rows.querySamesSpec) :=
  OpenClaim.holds_of_wide 4 Try.f4 rfl rfl rfl rfl rfl rfl rfl ⟨rfl, rfl, rfl, rfl, rfl⟩ rfl rfl rfl rfl rfl (by kernel_rfl) Try.func4 (by kernel_rfl)
    (of_decide_eq_true (by kernel_rfl)) (by unfold Func.isWrapper; first | (rw [if_pos (by decide +kernel)]; kernel_rfl) | (rw [if_neg (by decide +kernel)]; exact ⟨rfl, rfl⟩))
    (fun os started H enc _ => lifted os started H enc)

theorem proved : Rows.QuerySamesSaid := over
#print axioms proved
end Go.Proofs.Ytnhplkkbpmijdaa.querySames
