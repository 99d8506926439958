/-
  'Rows.BufferPlaysSaid' is proved: for every input that the row speaks of the law answers true, and its arguments read as they did. No further condition.
-/
import Derived.Test.YtcdcehjilneifaaRows
import Derived.Test.YtcdcehjilneifaaPcPy
import Derived.Test.YtcdcehjilneifaaFrame
import Derived.Test.YtcdcehjilneifaaPcFr
namespace Go.Proofs.Ytcdcehjilneifaa.bufferPlays
open Go.ChangeShapes Go.WideShapes Go.ChangeAt Go.RowKit Go.Gw Go.PcP
open Go.ChangeMaps (open_string shut_string)
set_option linter.unusedVariables false
set_option linter.unusedSimpArgs false

theorem own : ownKnob Try.prog.godebug = none := by kernel_rfl
theorem laidOut : laidOutB Try.prog = true := by kernel_rfl

theorem pcTy : PcTy Try.prog 57 22 60 23 79 64 68 27 := ⟨⟨_, _, Try.underlying57, by kernel_rfl, Try.underlying9, Try.underlying9, by kernel_rfl, by kernel_rfl, rfl, rfl⟩, Try.underlying22, ⟨_, _, Try.underlying60, by kernel_rfl, Try.underlying9, Try.underlying58, by kernel_rfl, by kernel_rfl, rfl, rfl⟩, Try.underlying23, ⟨_, _, Try.underlying79, by kernel_rfl, Try.underlying9, Try.underlying3, by kernel_rfl, by kernel_rfl, rfl, rfl⟩, Try.underlying64, ⟨_, _, Try.underlying68, by kernel_rfl, Try.underlying9, Try.underlying64, by kernel_rfl, by kernel_rfl, rfl, rfl⟩, Try.underlying27, by kernel_rfl, by kernel_rfl, by kernel_rfl, by kernel_rfl⟩

theorem walk (W : World) (v0 : Value) (l0 : List PcP.St) (hv0 : Rd W 7 v0 l0.length (recs stC l0)) (R0 : ∀ z ∈ l0, StR W z) :
    Calls Try.prog 4 #[v0] W fun e W' => e = .returned (.bool true) ∧ Below W.heap.size W W' := by
  exact lplays_c v0 l0 hv0 R0

set_option maxRecDepth 100000 in
theorem lifted (os : Os) (started : os.Started) (H : Type) (enc : TypeId × Value → H) :
    ReturnsInHanded {} Try.checked os 4 .any (Rows.bufferPlaysSpec.pre6 enc Try.prog Try.f4 Rows.bufferPlaysRow.domain false) (Rows.bufferPlaysSpec.post enc Try.prog Try.f4 false true false false) := by
  refine returnsInHanded_of_change_sized (C := Try.checked) own started (by kernel_rfl) Try.func4
    (ChangeSpec.witness6 (enc := enc) (C := Try.checked) false ⟨#[], #[.slice none 0 0], []⟩ 8 (by kernel_rfl) (by kernel_rfl) (by kernel_rfl) (by kernel_rfl)) ?_
  intro W base args ds gs before hval0 hW hcnd hsz0 _
  have hsz : (DataW.weightsEach Try.prog (Try.f4.params.toList ++ Rows.bufferPlaysSpec.plain.varTypes Try.prog) (ds ++ gs)).all (· ≤ reachBytes) = true := hsz0
  clear hsz0
  have hval : ∀ (j : Nat) t v, Try.f4.params[j]? = some t → args[j]? = some v → Value.okWide Try.prog W .any base t v := hval0
  have hW' := hW
  obtain ⟨p, q, hA0, hV, rfl, hfz, hnd⟩ := hW
  have hA : DataW.TrodAll enc Try.prog W 0 (fun _ => true) true Try.f4.params.toList args.toList ds p := hA0
  rw [Try.params4] at hA hval hsz
  obtain ⟨v0, vs0, d0, ds0, p0, q0, hargs, rfl, rfl, h0, t0⟩ := trodAll_cons hA
  obtain ⟨rfl, rfl, rfl⟩ := trodAll_nil t0
  obtain rfl : args = #[v0] := by cases args; simp_all
  obtain ⟨rfl, rfl⟩ := trodVars_none hV
  have k0 := h0
  have lt0 : ∀ x ∈ p0, x.block < W.heap.size := by obtain ⟨m, hm⟩ := k0; exact DataW.trod_lt m _ _ _ hm
  have hb0 : Wt Try.prog 40 d0 := wt_arg (j := 0) hsz rfl rfl
  obtain ⟨b0, len0, cap0, rfl⟩ := okWide_slice Try.underlying40 (hval 0 40 v0 rfl rfl)
  obtain ⟨fu0, hf0⟩ := h0
  obtain ⟨vv0, l0, ev0, hv0, n0, R0⟩ := open_list (k := 7) (f := stC) (G := StR W) (cs := [.slice b0 len0 cap0]) Try.underlying40 (by kernel_rfl) (by decide) hf0 hb0 (fun n c y hy hq => step_of ⟨_, _, _, Try.underlying45, by kernel_rfl, rfl, rfl, rfl, by kernel_rfl, by kernel_rfl, by kernel_rfl, rfl, rfl, rfl⟩ Try.underlying3 ⟨_, _, _, Try.underlying25, by kernel_rfl, rfl, rfl, rfl, by kernel_rfl, by kernel_rfl, by kernel_rfl, rfl, rfl, rfl⟩ ⟨_, _, _, Try.underlying29, by kernel_rfl, rfl, rfl, rfl, by kernel_rfl, by kernel_rfl, by kernel_rfl, rfl, rfl, rfl⟩ Try.underlying9 pcTy hy hq)
  simp only [List.cons.injEq, and_true] at ev0
  subst ev0
  clear hA0 hval0
  have key := walk W _ l0 hv0 R0
  refine key.mono fun e W' ⟨he, bel⟩ => ?_
  subst he
  exact ⟨_, rfl, _, _, _, [], _, [], hW', trodAll_mk1 (shut_bool Try.underlying4 _), (trodAll_cons_mk (Below.trod laidOut (by kernel_rfl) (of_decide_eq_true (by kernel_rfl)) k0 bel lt0) trodAll_mk0), rfl, bel.frame _, fun h => by cases h⟩

theorem over : Rows.bufferPlaysRow.holds Try.pinned (OpenSpec.ofChange Rows.bufferPlaysSpec) :=
  OpenClaim.holds_of_wide 4 Try.f4 rfl rfl rfl rfl rfl rfl rfl ⟨rfl, rfl, rfl, rfl, rfl⟩ rfl rfl rfl rfl rfl (by kernel_rfl) Try.func4 (by kernel_rfl)
    (of_decide_eq_true (by kernel_rfl)) (by unfold Func.isWrapper; first | (rw [if_pos (by decide +kernel)]; kernel_rfl) | (rw [if_neg (by decide +kernel)]; exact ⟨rfl, rfl⟩))
    (fun os started H enc _ => lifted os started H enc)

theorem proved : Rows.BufferPlaysSaid := over
#print axioms proved
end Go.Proofs.Ytcdcehjilneifaa.bufferPlays
