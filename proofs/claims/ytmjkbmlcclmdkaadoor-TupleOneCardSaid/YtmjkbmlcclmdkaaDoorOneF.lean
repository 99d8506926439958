/-
  'Rows.TupleOneCardSaid' is proved: for every input that the row speaks of the law answers true, and its arguments read as they did. No further condition.
-/
import Derived.Test.YtmjkbmlcclmdkaaDoorRows
import Derived.Test.YtmjkbmlcclmdkaaDoorCards
import Derived.Test.YtmjkbmlcclmdkaaDoorTie
import Derived.ProofKit
import Derived.OpenShut
import Derived.LaidMore
import Derived.Lay
import Derived.SevenTiedAt
import Derived.Stop.Joined
import Derived.Test.YtmjkbmlcclmdkaaDoorDrC
import Derived.Test.YtmjkbmlcclmdkaaDoorFrame
namespace Go.Proofs.YtmjkbmlcclmdkaaDoor.tupleOneCard
open Go.ChangeShapes Go.WideShapes Go.ChangeAt Go.RowKit Go.Gw
open Go.ChangeMaps (open_string shut_string)
set_option linter.unusedVariables false
set_option linter.unusedSimpArgs false

theorem own : ownKnob Tryd.prog.godebug = none := by kernel_rfl
theorem laidOut : laidOutB Tryd.prog = true := by kernel_rfl

theorem walk (W : World) (s0 : List UInt8) (r0 : s0.length ≤ 140737488351232) (v1 : Value) (l1 : List Int) (hv1 : Rd W 1 v1 l1.length (ivals .u8 l1)) (wl1 : ∀ n ∈ l1, (Lit.int .u8 n).wf = true) (r1 : l1.length * 1 ≤ 140737488351232) (n1 : l1.length ≤ 9223372036854775807) :
    Calls Tryd.prog 7 #[.string (sb s0), v1] W fun e W' => e = .returned (.bool true) ∧ Below W.heap.size W W' := by
  exact lone_c s0 (by omega) W v1 l1 hv1 (fun j => bounds_u8 (wf_getD wl1 (by decide) j))

set_option maxRecDepth 100000 in
theorem lifted (os : Os) (started : os.Started) (H : Type) (enc : TypeId × Value → H) :
    ReturnsInHanded {} Tryd.checked os 7 .any (fun w args => (Rows.tupleOneSpec.pre enc Tryd.prog Tryd.f7 Rows.tupleOneRow.domain false w args ∧ laidMetH Tryd.prog Rows.tupleOneRow.laid w) ∧ sizedMet enc Tryd.prog Tryd.f7 (OpenSpec.ofChange Rows.tupleOneSpec) false w args) (Rows.tupleOneSpec.post enc Tryd.prog Tryd.f7 false true false false) := by
  refine returnsInHanded_of_change_and (C := Tryd.checked) (X := fun w _ => laidMetH Tryd.prog Rows.tupleOneRow.laid w) (fun _ _ _ hh h => h.of_heap hh) own started (by kernel_rfl) Tryd.func7
    (ChangeSpec.witness_shaped (enc := enc) (C := Tryd.checked) (os := os) (X := fun w _ => laidMetH Tryd.prog Rows.tupleOneRow.laid w) false (World.laidAll Tryd.prog os Rows.tupleOneRow.laid) #[.string ByteArray.empty, .slice none 0 0] 8 (World.laidAll_os _ _ _)
      (World.shaped_of_ZipB (by kernel_rfl) (by kernel_rfl)) (by kernel_rfl) (by kernel_rfl) (by kernel_rfl)
      (by rw [MakeChecks.laidMetH_plain _ _ _ (by kernel_rfl)]; exact laidMet_laidAll _ (by kernel_rfl) (by kernel_rfl))) ?_
  intro W base args ds gs before hval0 hW hcnd hsz0 _ _
  have hsz : (DataW.weightsEach Tryd.prog (Tryd.f7.params.toList ++ Rows.tupleOneSpec.plain.varTypes Tryd.prog) (ds ++ gs)).all (· ≤ reachBytes) = true := hsz0
  clear hsz0
  have hval : ∀ (j : Nat) t v, Tryd.f7.params[j]? = some t → args[j]? = some v → Value.okWide Tryd.prog W .any base t v := hval0
  have hW' := hW
  obtain ⟨p, q, hA0, hV, rfl, hfz, hnd⟩ := hW
  have hA : DataW.TrodAll enc Tryd.prog W 0 (fun _ => true) true Tryd.f7.params.toList args.toList ds p := hA0
  rw [Tryd.params7] at hA hval hsz
  obtain ⟨v0, vs0, d0, ds0, p0, q0, hargs, rfl, rfl, h0, t0⟩ := trodAll_cons hA
  obtain ⟨v1, vs1, d1, ds1, p1, q1, rfl, rfl, rfl, h1, t1⟩ := trodAll_cons t0
  obtain ⟨rfl, rfl, rfl⟩ := trodAll_nil t1
  obtain rfl : args = #[v0, v1] := by cases args; simp_all
  obtain ⟨rfl, rfl⟩ := trodVars_none hV
  obtain ⟨a0, rfl, rfl, rfl, w0⟩ := open_string Tryd.underlying9 (hval 0 9 v0 rfl rfl) h0
  obtain ⟨b1, len1, cap1, rfl⟩ := okWide_slice Tryd.underlying45 (hval 1 45 v1 rfl rfl)
  have k1 := h1
  have lt1 : ∀ x ∈ p1, x.block < W.heap.size := by obtain ⟨m, hm⟩ := k1; exact DataW.trod_lt m _ _ _ hm
  have r0 := arg_string (j := 0) (t := 9) (s := a0) hsz rfl rfl
  obtain ⟨l1, e1, hv1, wl1, r1, n1⟩ := arg_ints (j := 1) Tryd.underlying45 Tryd.underlying5 (by kernel_rfl) h1 hsz rfl rfl
  have e1 : Tryd.prog.bytesOf 5 = 1 := by kernel_rfl
  rw [e1] at r1
  clear hA0 hval0
  have c0 : sb a0.data.toList = a0 := sb_of a0
  have key := walk W a0.data.toList r0 _ l1 hv1 wl1 r1 n1
  rw [c0] at key
  refine key.mono fun e W' ⟨he, bel⟩ => ?_
  subst he
  exact ⟨_, rfl, _, _, _, [], _, [], hW', trodAll_mk1 (shut_bool Tryd.underlying4 _), (trodAll_cons_mk (shut_string Tryd.underlying9 w0) (trodAll_cons_mk (Below.trod laidOut (by kernel_rfl) (of_decide_eq_true (by kernel_rfl)) k1 bel lt1) trodAll_mk0)), rfl, bel.frame _, fun h => by cases h⟩

theorem over : Rows.tupleOneRow.holds Tryd.pinned (OpenSpec.ofChange Rows.tupleOneSpec) :=
  OpenClaim.holds_of_wide 7 Tryd.f7 rfl rfl rfl rfl rfl rfl rfl ⟨rfl, rfl, rfl, rfl, rfl⟩ rfl rfl rfl rfl rfl (by kernel_rfl) Tryd.func7 (by kernel_rfl)
    (of_decide_eq_true (by kernel_rfl)) (by unfold Func.isWrapper; first | (rw [if_pos (by decide +kernel)]; kernel_rfl) | (rw [if_neg (by decide +kernel)]; exact ⟨rfl, rfl⟩))
    (fun os started H enc _ => lifted os started H enc)

theorem proved : Rows.TupleOneCardSaid :=
  Claim7.holds_tied_plain_at .later [] [.data, .pinned] true (true, "836bd0c5ad1996d83d8c94f37a49dc2a1f573466fe79a3d786b501ad1f6d44b4") false over (fun _ h => by cases h) (by kernel_rfl) (fun _ h => by cases h) tupleOne_row_tie rfl ⟨rfl, rfl⟩ (by kernel_rfl) rfl
    (fun f fn hf hfn => by
      obtain rfl : f = 7 := Option.some.inj ((show Tryd.prog.funcNamed "gloss/glosslaw01.TupleOne" = some 7 by kernel_rfl).symm.trans hf) |>.symm
      obtain rfl : fn = Tryd.f7 := (Option.some.inj (Tryd.func7.symm.trans hfn)).symm
      exact ⟨by kernel_rfl, fun j t ht => by
        rw [Tryd.params7] at ht
        have hm : t ∈ [9, 45] := by simpa using Array.mem_of_getElem? ht
        have hall : ([9, 45].all fun u => !Tryd.prog.wantsStandIn u) = true := by kernel_rfl
        exact (show Tryd.prog.wantsStandIn t = false by simpa using List.all_eq_true.1 hall t hm)⟩)
    (by kernel_rfl)
#print axioms proved
end Go.Proofs.YtmjkbmlcclmdkaaDoor.tupleOneCard
