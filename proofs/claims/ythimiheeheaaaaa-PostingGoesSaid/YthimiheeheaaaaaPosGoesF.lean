/-
  'Rows.PostingGoesSaid' is proved: for every input that the row speaks of the law answers true, and its arguments read as they did. No further condition.
-/
import Derived.Test.YthimiheeheaaaaaRows
import Derived.Test.YthimiheeheaaaaaPosT
import Derived.Test.YthimiheeheaaaaaFrame
import Derived.Test.YthimiheeheaaaaaFrameP
namespace Go.Proofs.Ythimiheeheaaaaa.postingGoes
open Go.ChangeShapes Go.WideShapes Go.ChangeAt Go.RowKit Go.Gw
open Go.ChangeMaps (open_string shut_string)
set_option linter.unusedVariables false
set_option linter.unusedSimpArgs false

theorem own : ownKnob Try.prog.godebug = none := by kernel_rfl
theorem laidOut : laidOutB Try.prog = true := by kernel_rfl

theorem walk (W : World) (v0 : Value) (l0 : PS) (X0 : Nat → Value) (hv0 : Rd W 2 v0 l0.length (pcells l0 X0)) (hx0 : ∀ j, j < l0.length → Rd W 1 (X0 j) (l0.getD j zp).2.length (ivals .i64 (l0.getD j zp).2)) (r0 : l0.length * 32 ≤ 140737488351232) (n0 : l0.length ≤ 9223372036854775807) (rx0 : ∀ j, j < l0.length → (l0.getD j zp).2.length * 8 ≤ 140737488351232) (v1 : Value) (l1 : List Int) (hv1 : Rd W 1 v1 l1.length (ivals .i64 l1)) (wl1 : ∀ n ∈ l1, (Lit.int .i64 n).wf = true) (r1 : l1.length * 8 ≤ 140737488351232) (n1 : l1.length ≤ 9223372036854775807) :
    Calls Try.prog 8 #[v0, v1] W fun e W' => e = .returned (.bool true) ∧ Below W.heap.size W W' := by
  exact lgoes_c W v0 l0 X0 hv0 hx0 v1 l1 hv1 (by omega) rx0

set_option maxRecDepth 100000 in
theorem lifted (os : Os) (started : os.Started) (H : Type) (enc : TypeId × Value → H) :
    ReturnsInHanded {} Try.checked os 8 .any (Rows.postingGoesSpec.pre6 enc Try.prog Try.f8 Rows.postingGoesRow.domain false) (Rows.postingGoesSpec.post enc Try.prog Try.f8 false true false false) := by
  refine returnsInHanded_of_change_sized (C := Try.checked) own started (by kernel_rfl) Try.func8
    (ChangeSpec.witness6 (enc := enc) (C := Try.checked) false ⟨#[], #[.slice none 0 0, .slice none 0 0], []⟩ 8 (by kernel_rfl) (by kernel_rfl) (by kernel_rfl) (by kernel_rfl)) ?_
  intro W base args ds gs before hval0 hW hcnd hsz0 _
  have hsz : (DataW.weightsEach Try.prog (Try.f8.params.toList ++ Rows.postingGoesSpec.plain.varTypes Try.prog) (ds ++ gs)).all (· ≤ reachBytes) = true := hsz0
  clear hsz0
  have hval : ∀ (j : Nat) t v, Try.f8.params[j]? = some t → args[j]? = some v → Value.okWide Try.prog W .any base t v := hval0
  have hW' := hW
  obtain ⟨p, q, hA0, hV, rfl, hfz, hnd⟩ := hW
  have hA : DataW.TrodAll enc Try.prog W 0 (fun _ => true) true Try.f8.params.toList args.toList ds p := hA0
  rw [Try.params8] at hA hval hsz
  obtain ⟨v0, vs0, d0, ds0, p0, q0, hargs, rfl, rfl, h0, t0⟩ := trodAll_cons hA
  obtain ⟨v1, vs1, d1, ds1, p1, q1, rfl, rfl, rfl, h1, t1⟩ := trodAll_cons t0
  obtain ⟨rfl, rfl, rfl⟩ := trodAll_nil t1
  obtain rfl : args = #[v0, v1] := by cases args; simp_all
  obtain ⟨rfl, rfl⟩ := trodVars_none hV
  obtain ⟨b0, len0, cap0, rfl⟩ := okWide_slice Try.underlying22 (hval 0 22 v0 rfl rfl)
  have k0 := h0
  have lt0 : ∀ x ∈ p0, x.block < W.heap.size := by obtain ⟨m, hm⟩ := k0; exact DataW.trod_lt m _ _ _ hm
  obtain ⟨b1, len1, cap1, rfl⟩ := okWide_slice Try.underlying38 (hval 1 38 v1 rfl rfl)
  have k1 := h1
  have lt1 : ∀ x ∈ p1, x.block < W.heap.size := by obtain ⟨m, hm⟩ := k1; exact DataW.trod_lt m _ _ _ hm
  obtain ⟨l1, e1, hv1, wl1, r1, n1⟩ := arg_ints (j := 1) Try.underlying38 Try.underlying3 (by kernel_rfl) h1 hsz rfl rfl
  have e1 : Try.prog.bytesOf 3 = 8 := by kernel_rfl
  rw [e1] at r1
  obtain ⟨l0, X0, hv0, hx0, r0, n0, rx0, z0, sh0⟩ := arg_posts (j := 0) Try.underlying22 Try.underlying40 (by kernel_rfl) Try.underlying3 Try.underlying38 Try.underlying3 (by kernel_rfl) (by kernel_rfl) (by kernel_rfl) rfl rfl h0 hsz rfl rfl
  have e0 : Try.prog.bytesOf 40 = 32 := by kernel_rfl
  have ex0 : Try.prog.bytesOf 3 = 8 := by kernel_rfl
  rw [e0] at r0
  rw [ex0] at rx0
  clear hA0 hval0
  have key := walk W _ l0 X0 hv0 hx0 r0 n0 rx0 _ l1 hv1 wl1 r1 n1
  refine key.mono fun e W' ⟨he, bel⟩ => ?_
  subst he
  exact ⟨_, rfl, _, _, _, [], _, [], hW', trodAll_mk1 (shut_bool Try.underlying4 _), (trodAll_cons_mk (Below.trod laidOut (by kernel_rfl) (of_decide_eq_true (by kernel_rfl)) k0 bel lt0) (trodAll_cons_mk (Below.trod laidOut (by kernel_rfl) (of_decide_eq_true (by kernel_rfl)) k1 bel lt1) trodAll_mk0)), rfl, bel.frame _, fun h => by cases h⟩

theorem over : Rows.postingGoesRow.holds Try.pinned (OpenSpec.ofChange Rows.postingGoesSpec) :=
  OpenClaim.holds_of_wide 8 Try.f8 rfl rfl rfl rfl rfl rfl rfl ⟨rfl, rfl, rfl, rfl, rfl⟩ rfl rfl rfl rfl rfl (by kernel_rfl) Try.func8 (by kernel_rfl)
    (of_decide_eq_true (by kernel_rfl)) (by unfold Func.isWrapper; first | (rw [if_pos (by decide +kernel)]; kernel_rfl) | (rw [if_neg (by decide +kernel)]; exact ⟨rfl, rfl⟩))
    (fun os started H enc _ => lifted os started H enc)

theorem proved : Rows.PostingGoesSaid := over
#print axioms proved
end Go.Proofs.Ythimiheeheaaaaa.postingGoes
