/-
  'Rows.TupleRowsCardSaid' is proved: for every input that the row speaks of the law answers true, and its arguments read as they did. No further condition.
-/
import Derived.Test.YtmjkbmlcclmdkaaDoorRows
import Derived.Test.YtmjkbmlcclmdkaaDoorCards
import Derived.Test.YtmjkbmlcclmdkaaDoorTie
import Derived.ProofKit
import Derived.OpenShut
import Derived.LaidMore
import Derived.Lay
import Derived.SevenTiedAt
import Derived.Stop.Joined
import Derived.Test.YtmjkbmlcclmdkaaDoorDrD
import Derived.Test.YtmjkbmlcclmdkaaDoorFrame
import Derived.Test.YtmjkbmlcclmdkaaDoorItF
namespace Go.Proofs.YtmjkbmlcclmdkaaDoor.tupleRowsCard
open Go.ChangeShapes Go.WideShapes Go.ChangeAt Go.RowKit Go.Gw Go.DoorP
open Go.ChangeMaps (open_string shut_string)
set_option linter.unusedVariables false
set_option linter.unusedSimpArgs false

theorem own : ownKnob Tryd.prog.godebug = none := by kernel_rfl
theorem laidOut : laidOutB Tryd.prog = true := by kernel_rfl

theorem walk (W : World) (v0 : Value) (l0 : List (List UInt8)) (hv0 : Rd W 1 v0 l0.length (svals l0)) (hw0 : ∀ j, (l0.getD j []).length ≤ 140737488351232) (r0 : l0.length * 16 ≤ 140737488351232) (n0 : l0.length ≤ 9223372036854775807) (v1 : Value) (l1 : List (List UInt8)) (hv1 : Rd W 1 v1 l1.length (svals l1)) (hw1 : ∀ j, (l1.getD j []).length ≤ 140737488351232) (r1 : l1.length * 16 ≤ 140737488351232) (n1 : l1.length ≤ 9223372036854775807) (v2 : Value) (l2 : List Int) (hv2 : Rd W 1 v2 l2.length (ivals .i64 l2)) (wl2 : ∀ n ∈ l2, (Lit.int .i64 n).wf = true) (r2 : l2.length * 8 ≤ 140737488351232) (n2 : l2.length ≤ 9223372036854775807) (v3 : Value) (l3 : List Int) (hv3 : Rd W 1 v3 l3.length (ivals .i64 l3)) (wl3 : ∀ n ∈ l3, (Lit.int .i64 n).wf = true) (r3 : l3.length * 8 ≤ 140737488351232) (n3 : l3.length ≤ 9223372036854775807) :
    Calls Tryd.prog 4 #[v0, v1, v2, v3] W fun e W' => e = .returned (.bool true) ∧ Below W.heap.size W W' := by
  exact lrows_c W v0 l0 hv0 hw0 v1 l1 hv1 hw1 v2 l2 hv2 (fun j => bounds_i64 (wf_getD wl2 (by decide) j)) v3 l3 hv3 (fun j => bounds_i64 (wf_getD wl3 (by decide) j))

set_option maxRecDepth 100000 in
theorem lifted (os : Os) (started : os.Started) (H : Type) (enc : TypeId × Value → H) :
    ReturnsInHanded {} Tryd.checked os 4 .any (fun w args => (Rows.tupleRowsSpec.pre enc Tryd.prog Tryd.f4 Rows.tupleRowsRow.domain false w args ∧ laidMetH Tryd.prog Rows.tupleRowsRow.laid w) ∧ sizedMet enc Tryd.prog Tryd.f4 (OpenSpec.ofChange Rows.tupleRowsSpec) false w args) (Rows.tupleRowsSpec.post enc Tryd.prog Tryd.f4 false true false false) := by
  refine returnsInHanded_of_change_and (C := Tryd.checked) (X := fun w _ => laidMetH Tryd.prog Rows.tupleRowsRow.laid w) (fun _ _ _ hh h => h.of_heap hh) own started (by kernel_rfl) Tryd.func4
    (ChangeSpec.witness_shaped (enc := enc) (C := Tryd.checked) (os := os) (X := fun w _ => laidMetH Tryd.prog Rows.tupleRowsRow.laid w) false (World.laidAll Tryd.prog os Rows.tupleRowsRow.laid) #[.slice none 0 0, .slice none 0 0, .slice none 0 0, .slice none 0 0] 8 (World.laidAll_os _ _ _)
      (World.shaped_of_ZipB (by kernel_rfl) (by kernel_rfl)) (by kernel_rfl) (by kernel_rfl) (by kernel_rfl)
      (by rw [MakeChecks.laidMetH_plain _ _ _ (by kernel_rfl)]; exact laidMet_laidAll _ (by kernel_rfl) (by kernel_rfl))) ?_
  intro W base args ds gs before hval0 hW hcnd hsz0 _ _
  have hsz : (DataW.weightsEach Tryd.prog (Tryd.f4.params.toList ++ Rows.tupleRowsSpec.plain.varTypes Tryd.prog) (ds ++ gs)).all (· ≤ reachBytes) = true := hsz0
  clear hsz0
  have hval : ∀ (j : Nat) t v, Tryd.f4.params[j]? = some t → args[j]? = some v → Value.okWide Tryd.prog W .any base t v := hval0
  have hW' := hW
  obtain ⟨p, q, hA0, hV, rfl, hfz, hnd⟩ := hW
  have hA : DataW.TrodAll enc Tryd.prog W 0 (fun _ => true) true Tryd.f4.params.toList args.toList ds p := hA0
  rw [Tryd.params4] at hA hval hsz
  obtain ⟨v0, vs0, d0, ds0, p0, q0, hargs, rfl, rfl, h0, t0⟩ := trodAll_cons hA
  obtain ⟨v1, vs1, d1, ds1, p1, q1, rfl, rfl, rfl, h1, t1⟩ := trodAll_cons t0
  obtain ⟨v2, vs2, d2, ds2, p2, q2, rfl, rfl, rfl, h2, t2⟩ := trodAll_cons t1
  obtain ⟨v3, vs3, d3, ds3, p3, q3, rfl, rfl, rfl, h3, t3⟩ := trodAll_cons t2
  obtain ⟨rfl, rfl, rfl⟩ := trodAll_nil t3
  obtain rfl : args = #[v0, v1, v2, v3] := by cases args; simp_all
  obtain ⟨rfl, rfl⟩ := trodVars_none hV
  obtain ⟨b0, len0, cap0, rfl⟩ := okWide_slice Tryd.underlying27 (hval 0 27 v0 rfl rfl)
  have k0 := h0
  have lt0 : ∀ x ∈ p0, x.block < W.heap.size := by obtain ⟨m, hm⟩ := k0; exact DataW.trod_lt m _ _ _ hm
  obtain ⟨b1, len1, cap1, rfl⟩ := okWide_slice Tryd.underlying27 (hval 1 27 v1 rfl rfl)
  have k1 := h1
  have lt1 : ∀ x ∈ p1, x.block < W.heap.size := by obtain ⟨m, hm⟩ := k1; exact DataW.trod_lt m _ _ _ hm
  obtain ⟨b2, len2, cap2, rfl⟩ := okWide_slice Tryd.underlying28 (hval 2 28 v2 rfl rfl)
  have k2 := h2
  have lt2 : ∀ x ∈ p2, x.block < W.heap.size := by obtain ⟨m, hm⟩ := k2; exact DataW.trod_lt m _ _ _ hm
  obtain ⟨b3, len3, cap3, rfl⟩ := okWide_slice Tryd.underlying28 (hval 3 28 v3 rfl rfl)
  have k3 := h3
  have lt3 : ∀ x ∈ p3, x.block < W.heap.size := by obtain ⟨m, hm⟩ := k3; exact DataW.trod_lt m _ _ _ hm
  obtain ⟨l2, e2, hv2, wl2, r2, n2⟩ := arg_ints (j := 2) Tryd.underlying28 Tryd.underlying3 (by kernel_rfl) h2 hsz rfl rfl
  have e2 : Tryd.prog.bytesOf 3 = 8 := by kernel_rfl
  rw [e2] at r2
  obtain ⟨l3, e3, hv3, wl3, r3, n3⟩ := arg_ints (j := 3) Tryd.underlying28 Tryd.underlying3 (by kernel_rfl) h3 hsz rfl rfl
  have e3 : Tryd.prog.bytesOf 3 = 8 := by kernel_rfl
  rw [e3] at r3
  obtain ⟨l0, hv0, hw0, r0, n0⟩ := arg_strs (j := 0) Tryd.underlying27 Tryd.underlying9 (by kernel_rfl) h0 hsz rfl rfl
  have e0 : Tryd.prog.bytesOf 9 = 16 := by kernel_rfl
  rw [e0] at r0
  obtain ⟨l1, hv1, hw1, r1, n1⟩ := arg_strs (j := 1) Tryd.underlying27 Tryd.underlying9 (by kernel_rfl) h1 hsz rfl rfl
  have e1 : Tryd.prog.bytesOf 9 = 16 := by kernel_rfl
  rw [e1] at r1
  clear hA0 hval0
  have key := walk W _ l0 hv0 hw0 r0 n0 _ l1 hv1 hw1 r1 n1 _ l2 hv2 wl2 r2 n2 _ l3 hv3 wl3 r3 n3
  refine key.mono fun e W' ⟨he, bel⟩ => ?_
  subst he
  exact ⟨_, rfl, _, _, _, [], _, [], hW', trodAll_mk1 (shut_bool Tryd.underlying4 _), (trodAll_cons_mk (Below.trod laidOut (by kernel_rfl) (of_decide_eq_true (by kernel_rfl)) k0 bel lt0) (trodAll_cons_mk (Below.trod laidOut (by kernel_rfl) (of_decide_eq_true (by kernel_rfl)) k1 bel lt1) (trodAll_cons_mk (Below.trod laidOut (by kernel_rfl) (of_decide_eq_true (by kernel_rfl)) k2 bel lt2) (trodAll_cons_mk (Below.trod laidOut (by kernel_rfl) (of_decide_eq_true (by kernel_rfl)) k3 bel lt3) trodAll_mk0)))), rfl, bel.frame _, fun h => by cases h⟩

theorem over : Rows.tupleRowsRow.holds Tryd.pinned (OpenSpec.ofChange Rows.tupleRowsSpec) :=
  OpenClaim.holds_of_wide 4 Tryd.f4 rfl rfl rfl rfl rfl rfl rfl ⟨rfl, rfl, rfl, rfl, rfl⟩ rfl rfl rfl rfl rfl (by kernel_rfl) Tryd.func4 (by kernel_rfl)
    (of_decide_eq_true (by kernel_rfl)) (by unfold Func.isWrapper; first | (rw [if_pos (by decide +kernel)]; kernel_rfl) | (rw [if_neg (by decide +kernel)]; exact ⟨rfl, rfl⟩))
    (fun os started H enc _ => lifted os started H enc)

theorem proved : Rows.TupleRowsCardSaid :=
  Claim7.holds_tied_plain_at .later [] [.data, .pinned] true (true, "836bd0c5ad1996d83d8c94f37a49dc2a1f573466fe79a3d786b501ad1f6d44b4") false over (fun _ h => by cases h) (by kernel_rfl) (fun _ h => by cases h) tupleRows_row_tie rfl ⟨rfl, rfl⟩ (by kernel_rfl) rfl
    (fun f fn hf hfn => by
      obtain rfl : f = 4 := Option.some.inj ((show Tryd.prog.funcNamed "gloss/glosslaw01.TupleRows" = some 4 by kernel_rfl).symm.trans hf) |>.symm
      obtain rfl : fn = Tryd.f4 := (Option.some.inj (Tryd.func4.symm.trans hfn)).symm
      exact ⟨by kernel_rfl, fun j t ht => by
        rw [Tryd.params4] at ht
        have hm : t ∈ [27, 27, 28, 28] := by simpa using Array.mem_of_getElem? ht
        have hall : ([27, 27, 28, 28].all fun u => !Tryd.prog.wantsStandIn u) = true := by kernel_rfl
        exact (show Tryd.prog.wantsStandIn t = false by simpa using List.all_eq_true.1 hall t hm)⟩)
    (by kernel_rfl)
#print axioms proved
end Go.Proofs.YtmjkbmlcclmdkaaDoor.tupleRowsCard
