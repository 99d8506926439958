/-
  'Rows.TupleGoesSaid' is proved: for every input that the row speaks of the law answers true, and its arguments read as they did. No further condition.
-/
import Derived.Test.YtmjkbmlcclmdkaaRows
import Derived.Test.YtmjkbmlcclmdkaaTupB
import Derived.Test.YtmjkbmlcclmdkaaFrame
namespace Go.Proofs.Ytmjkbmlcclmdkaa.tupleGoes
open Go.ChangeShapes Go.WideShapes Go.ChangeAt Go.RowKit Go.Gw
open Go.ChangeMaps (open_string shut_string)
set_option linter.unusedVariables false
set_option linter.unusedSimpArgs false

theorem own : ownKnob Try.prog.godebug = none := by kernel_rfl
theorem laidOut : laidOutB Try.prog = true := by kernel_rfl

theorem walk (W : World) (s0 : List UInt8) (r0 : s0.length ≤ 140737488351232) (v1 : Value) (l1 : List Int) (hv1 : Rd W 1 v1 l1.length (ivals .u8 l1)) (wl1 : ∀ n ∈ l1, (Lit.int .u8 n).wf = true) (r1 : l1.length * 1 ≤ 140737488351232) (n1 : l1.length ≤ 9223372036854775807) :
    Calls Try.prog 3 #[.string (sb s0), v1] W fun e W' => e = .returned (.bool true) ∧ Below W.heap.size W W' := by
  refine lgoes_c s0 v1 l1 W hv1 (fun j => ?_) (by omega)
  exact bounds_u8 (wf_getD wl1 (by decide) j)

set_option maxRecDepth 100000 in
theorem lifted (os : Os) (started : os.Started) (H : Type) (enc : TypeId × Value → H) :
    ReturnsInHanded {} Try.checked os 3 .any (Rows.tupleGoesSpec.pre6 enc Try.prog Try.f3 Rows.tupleGoesRow.domain false) (Rows.tupleGoesSpec.post enc Try.prog Try.f3 false true false false) := by
  refine returnsInHanded_of_change_sized (C := Try.checked) own started (by kernel_rfl) Try.func3
    (ChangeSpec.witness6 (enc := enc) (C := Try.checked) false ⟨#[], #[.string ByteArray.empty, .slice none 0 0], []⟩ 8 (by kernel_rfl) (by kernel_rfl) (by kernel_rfl) (by kernel_rfl)) ?_
  intro W base args ds gs before hval0 hW hcnd hsz0 _
  have hsz : (DataW.weightsEach Try.prog (Try.f3.params.toList ++ Rows.tupleGoesSpec.plain.varTypes Try.prog) (ds ++ gs)).all (· ≤ reachBytes) = true := hsz0
  clear hsz0
  have hval : ∀ (j : Nat) t v, Try.f3.params[j]? = some t → args[j]? = some v → Value.okWide Try.prog W .any base t v := hval0
  have hW' := hW
  obtain ⟨p, q, hA0, hV, rfl, hfz, hnd⟩ := hW
  have hA : DataW.TrodAll enc Try.prog W 0 (fun _ => true) true Try.f3.params.toList args.toList ds p := hA0
  rw [Try.params3] at hA hval hsz
  obtain ⟨v0, vs0, d0, ds0, p0, q0, hargs, rfl, rfl, h0, t0⟩ := trodAll_cons hA
  obtain ⟨v1, vs1, d1, ds1, p1, q1, rfl, rfl, rfl, h1, t1⟩ := trodAll_cons t0
  obtain ⟨rfl, rfl, rfl⟩ := trodAll_nil t1
  obtain rfl : args = #[v0, v1] := by cases args; simp_all
  obtain ⟨rfl, rfl⟩ := trodVars_none hV
  obtain ⟨a0, rfl, rfl, rfl, w0⟩ := open_string Try.underlying9 (hval 0 9 v0 rfl rfl) h0
  obtain ⟨b1, len1, cap1, rfl⟩ := okWide_slice Try.underlying22 (hval 1 22 v1 rfl rfl)
  have k1 := h1
  have lt1 : ∀ x ∈ p1, x.block < W.heap.size := by obtain ⟨m, hm⟩ := k1; exact DataW.trod_lt m _ _ _ hm
  have r0 := arg_string (j := 0) (t := 9) (s := a0) hsz rfl rfl
  obtain ⟨l1, e1, hv1, wl1, r1, n1⟩ := arg_ints (j := 1) Try.underlying22 Try.underlying5 (by kernel_rfl) h1 hsz rfl rfl
  have e1 : Try.prog.bytesOf 5 = 1 := by kernel_rfl
  rw [e1] at r1
  clear hA0 hval0
  have c0 : sb a0.data.toList = a0 := sb_of a0
  have key := walk W a0.data.toList r0 _ l1 hv1 wl1 r1 n1
  rw [c0] at key
  refine key.mono fun e W' ⟨he, bel⟩ => ?_
  subst he
  exact ⟨_, rfl, _, _, _, [], _, [], hW', trodAll_mk1 (shut_bool Try.underlying4 _), (trodAll_cons_mk (shut_string Try.underlying9 w0) (trodAll_cons_mk (Below.trod laidOut (by kernel_rfl) (of_decide_eq_true (by kernel_rfl)) k1 bel lt1) trodAll_mk0)), rfl, bel.frame _, fun h => by cases h⟩

theorem over : Rows.tupleGoesRow.holds Try.pinned (OpenSpec.ofChange Rows.tupleGoesSpec) :=
  OpenClaim.holds_of_wide 3 Try.f3 rfl rfl rfl rfl rfl rfl rfl ⟨rfl, rfl, rfl, rfl, rfl⟩ rfl rfl rfl rfl rfl (by kernel_rfl) Try.func3 (by kernel_rfl)
    (of_decide_eq_true (by kernel_rfl)) (by unfold Func.isWrapper; first | (rw [if_pos (by decide +kernel)]; kernel_rfl) | (rw [if_neg (by decide +kernel)]; exact ⟨rfl, rfl⟩))
    (fun os started H enc _ => lifted os started H enc)

theorem proved : Rows.TupleGoesSaid := over
#print axioms proved
end Go.Proofs.Ytmjkbmlcclmdkaa.tupleGoes
