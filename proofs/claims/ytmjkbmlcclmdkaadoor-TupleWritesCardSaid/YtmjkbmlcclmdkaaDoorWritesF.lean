/-
  'Rows.TupleWritesCardSaid' is proved: for every input that the row speaks of the law answers true, and its arguments read as they did. No further condition.
-/
import Derived.Test.YtmjkbmlcclmdkaaDoorRows
import Derived.Test.YtmjkbmlcclmdkaaDoorCards
import Derived.Test.YtmjkbmlcclmdkaaDoorTie
import Derived.ProofKit
import Derived.OpenShut
import Derived.LaidMore
import Derived.Lay
import Derived.SevenTiedAt
import Derived.Stop.Joined
import Derived.Test.YtmjkbmlcclmdkaaDoorDrE
import Derived.Test.YtmjkbmlcclmdkaaDoorFrame
namespace Go.Proofs.YtmjkbmlcclmdkaaDoor.tupleWritesCard
open Go.ChangeShapes Go.WideShapes Go.ChangeAt Go.RowKit Go.Gw
open Go.ChangeMaps (open_string shut_string)
set_option linter.unusedVariables false
set_option linter.unusedSimpArgs false

theorem own : ownKnob Tryd.prog.godebug = none := by kernel_rfl
theorem laidOut : laidOutB Tryd.prog = true := by kernel_rfl

theorem walk (W : World) (v0 : Value) (l0 : List Int) (hv0 : Rd W 1 v0 l0.length (ivals .i64 l0)) (wl0 : ∀ n ∈ l0, (Lit.int .i64 n).wf = true) (r0 : l0.length * 8 ≤ 140737488351232) (n0 : l0.length ≤ 9223372036854775807) (s1 : List UInt8) (r1 : s1.length ≤ 140737488351232) :
    Calls Tryd.prog 5 #[v0, .string (sb s1)] W fun e W' => e = .returned (.bool true) ∧ Below W.heap.size W W' := by
  exact lwrites_c W v0 l0 (fun j => bounds_i64 (wf_getD wl0 (by decide) j)) (by omega) hv0 s1 (by omega)

set_option maxRecDepth 100000 in
theorem lifted (os : Os) (started : os.Started) (H : Type) (enc : TypeId × Value → H) :
    ReturnsInHanded {} Tryd.checked os 5 .any (fun w args => (Rows.tupleWritesSpec.pre enc Tryd.prog Tryd.f5 Rows.tupleWritesRow.domain false w args ∧ laidMetH Tryd.prog Rows.tupleWritesRow.laid w) ∧ sizedMet enc Tryd.prog Tryd.f5 (OpenSpec.ofChange Rows.tupleWritesSpec) false w args) (Rows.tupleWritesSpec.post enc Tryd.prog Tryd.f5 false true false false) := by
  refine returnsInHanded_of_change_and (C := Tryd.checked) (X := fun w _ => laidMetH Tryd.prog Rows.tupleWritesRow.laid w) (fun _ _ _ hh h => h.of_heap hh) own started (by kernel_rfl) Tryd.func5
    (ChangeSpec.witness_shaped (enc := enc) (C := Tryd.checked) (os := os) (X := fun w _ => laidMetH Tryd.prog Rows.tupleWritesRow.laid w) false (World.laidAll Tryd.prog os Rows.tupleWritesRow.laid) #[.slice none 0 0, .string ByteArray.empty] 8 (World.laidAll_os _ _ _)
      (World.shaped_of_ZipB (by kernel_rfl) (by kernel_rfl)) (by kernel_rfl) (by kernel_rfl) (by kernel_rfl)
      (by rw [MakeChecks.laidMetH_plain _ _ _ (by kernel_rfl)]; exact laidMet_laidAll _ (by kernel_rfl) (by kernel_rfl))) ?_
  intro W base args ds gs before hval0 hW hcnd hsz0 _ _
  have hsz : (DataW.weightsEach Tryd.prog (Tryd.f5.params.toList ++ Rows.tupleWritesSpec.plain.varTypes Tryd.prog) (ds ++ gs)).all (· ≤ reachBytes) = true := hsz0
  clear hsz0
  have hval : ∀ (j : Nat) t v, Tryd.f5.params[j]? = some t → args[j]? = some v → Value.okWide Tryd.prog W .any base t v := hval0
  have hW' := hW
  obtain ⟨p, q, hA0, hV, rfl, hfz, hnd⟩ := hW
  have hA : DataW.TrodAll enc Tryd.prog W 0 (fun _ => true) true Tryd.f5.params.toList args.toList ds p := hA0
  rw [Tryd.params5] at hA hval hsz
  obtain ⟨v0, vs0, d0, ds0, p0, q0, hargs, rfl, rfl, h0, t0⟩ := trodAll_cons hA
  obtain ⟨v1, vs1, d1, ds1, p1, q1, rfl, rfl, rfl, h1, t1⟩ := trodAll_cons t0
  obtain ⟨rfl, rfl, rfl⟩ := trodAll_nil t1
  obtain rfl : args = #[v0, v1] := by cases args; simp_all
  obtain ⟨rfl, rfl⟩ := trodVars_none hV
  obtain ⟨b0, len0, cap0, rfl⟩ := okWide_slice Tryd.underlying28 (hval 0 28 v0 rfl rfl)
  have k0 := h0
  have lt0 : ∀ x ∈ p0, x.block < W.heap.size := by obtain ⟨m, hm⟩ := k0; exact DataW.trod_lt m _ _ _ hm
  obtain ⟨a1, rfl, rfl, rfl, w1⟩ := open_string Tryd.underlying9 (hval 1 9 v1 rfl rfl) h1
  obtain ⟨l0, e0, hv0, wl0, r0, n0⟩ := arg_ints (j := 0) Tryd.underlying28 Tryd.underlying3 (by kernel_rfl) h0 hsz rfl rfl
  have e0 : Tryd.prog.bytesOf 3 = 8 := by kernel_rfl
  rw [e0] at r0
  have r1 := arg_string (j := 1) (t := 9) (s := a1) hsz rfl rfl
  clear hA0 hval0
  have c1 : sb a1.data.toList = a1 := sb_of a1
  have key := walk W _ l0 hv0 wl0 r0 n0 a1.data.toList r1
  rw [c1] at key
  refine key.mono fun e W' ⟨he, bel⟩ => ?_
  subst he
  exact ⟨_, rfl, _, _, _, [], _, [], hW', trodAll_mk1 (shut_bool Tryd.underlying4 _), (trodAll_cons_mk (Below.trod laidOut (by kernel_rfl) (of_decide_eq_true (by kernel_rfl)) k0 bel lt0) (trodAll_cons_mk (shut_string Tryd.underlying9 w1) trodAll_mk0)), rfl, bel.frame _, fun h => by cases h⟩

theorem over : Rows.tupleWritesRow.holds Tryd.pinned (OpenSpec.ofChange Rows.tupleWritesSpec) :=
  OpenClaim.holds_of_wide 5 Tryd.f5 rfl rfl rfl rfl rfl rfl rfl ⟨rfl, rfl, rfl, rfl, rfl⟩ rfl rfl rfl rfl rfl (by kernel_rfl) Tryd.func5 (by kernel_rfl)
    (of_decide_eq_true (by kernel_rfl)) (by unfold Func.isWrapper; first | (rw [if_pos (by decide +kernel)]; kernel_rfl) | (rw [if_neg (by decide +kernel)]; exact ⟨rfl, rfl⟩))
    (fun os started H enc _ => lifted os started H enc)

theorem proved : Rows.TupleWritesCardSaid :=
  Claim7.holds_tied_plain_at .later [] [.data, .pinned] true (true, "836bd0c5ad1996d83d8c94f37a49dc2a1f573466fe79a3d786b501ad1f6d44b4") false over (fun _ h => by cases h) (by kernel_rfl) (fun _ h => by cases h) tupleWrites_row_tie rfl ⟨rfl, rfl⟩ (by kernel_rfl) rfl
    (fun f fn hf hfn => by
      obtain rfl : f = 5 := Option.some.inj ((show Tryd.prog.funcNamed "gloss/glosslaw01.TupleWrites" = some 5 by kernel_rfl).symm.trans hf) |>.symm
      obtain rfl : fn = Tryd.f5 := (Option.some.inj (Tryd.func5.symm.trans hfn)).symm
      exact ⟨by kernel_rfl, fun j t ht => by
        rw [Tryd.params5] at ht
        have hm : t ∈ [28, 9] := by simpa using Array.mem_of_getElem? ht
        have hall : ([28, 9].all fun u => !Tryd.prog.wantsStandIn u) = true := by kernel_rfl
        exact (show Tryd.prog.wantsStandIn t = false by simpa using List.all_eq_true.1 hall t hm)⟩)
    (by kernel_rfl)
#print axioms proved
end Go.Proofs.YtmjkbmlcclmdkaaDoor.tupleWritesCard
