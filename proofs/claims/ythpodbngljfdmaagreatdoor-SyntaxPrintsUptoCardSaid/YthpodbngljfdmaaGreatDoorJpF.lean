/-
  'Rows.SyntaxPrintsUptoCardSaid' is proved: for every input that the row speaks of the law answers true, and its arguments read as they did. No further condition.
-/
import Derived.Test.YthpodbngljfdmaaGreatDoorRows
import Derived.Test.YthpodbngljfdmaaGreatDoorCards
import Derived.Test.YthpodbngljfdmaaGreatDoorTie
import Derived.ProofKit
import Derived.OpenShut
import Derived.LaidMore
import Derived.Lay
import Derived.SevenTiedAt
import Derived.Stop.Joined
import Derived.Test.YthpodbngljfdmaaGreatDoorJp4
namespace Go.Proofs.YthpodbngljfdmaaGreatDoor.syntaxPrintsUptoCard
open Go.ChangeShapes Go.WideShapes Go.ChangeAt Go.RowKit Go.Gw Go.QryP
open Go.ChangeMaps (open_string shut_string)
set_option linter.unusedVariables false
set_option linter.unusedSimpArgs false

theorem own : ownKnob Tryz.prog.godebug = none := by kernel_rfl
theorem laidOut : laidOutB Tryz.prog = true := by kernel_rfl

theorem walk (W : World) (hg : Go.SynV.GV W) (z0 : QN) (q0 : Q) (e0 : z0.h = q0.h) (hq0 : RdQ W q0 z0.parts) (b0 : bulkQ q0 + 8 ≤ 1048576) (nu0 : Go.SynP.numQ q0) :
    Calls Tryz.prog 3 #[.agg #[.int .i64 z0.h.op, .string (sb z0.h.field), .string (sb z0.h.text), .int .i64 z0.h.edits, .int .i64 z0.h.exact, .int .u64 z0.h.lo, .int .u64 z0.h.hi, z0.parts]] W fun e W' => e = .returned (.bool true) ∧ Below W.heap.size W W' := by
  exact Go.Proofs.YthpodbngljfdmaaGreatDoor.lprints_c q0 z0.h e0 z0.parts hq0 (by omega) nu0 hg.gs

theorem bulk_pos {H : Type} (d : DataW H) : 1 ≤ Rows.uptoBulk d := by
  cases d with
  | lit v => cases v <;> simp [Rows.uptoBulk]
  | _ => simp [Rows.uptoBulk]
theorem bulk_len {H : Type} : ∀ l : List (DataW H), l.length ≤ Rows.uptoBulkAll l
  | [] => Nat.zero_le _
  | d :: l => by
    have h1 := bulk_len l
    have h2 := bulk_pos d
    simp only [Rows.uptoBulkAll, List.length_cons]
    omega
theorem bulk_mem {H : Type} {l : List (DataW H)} {d : DataW H} (h : d ∈ l) : Rows.uptoBulk d ≤ Rows.uptoBulkAll l := by
  induction l with
  | nil => cases h
  | cons x r ih =>
    simp only [Rows.uptoBulkAll]
    rcases List.mem_cons.1 h with rfl | h
    · omega
    · have := ih h; omega
set_option maxRecDepth 100000 in
theorem lifted (os : Os) (started : os.Started) (H : Type) (enc : TypeId × Value → H) (F : Stop.Interp) :
    ReturnsInHanded {} Tryz.checked os 3 .any (fun w args => ((Rows.OpenSpec.upto Rows.syntaxPrintsSpec).pre enc Tryz.prog Tryz.f3 Rows.syntaxPrintsUptoRow.domain false w args ∧ laidMetH Tryz.prog Rows.syntaxPrintsUptoRow.laid w) ∧ sizedMet enc Tryz.prog Tryz.f3 (Rows.OpenSpec.upto Rows.syntaxPrintsSpec) false w args) (((Rows.OpenSpec.upto Rows.syntaxPrintsSpec).at F).post enc Tryz.prog Tryz.f3 false true false false) := by
  have hx0 : (DataW.whole enc Tryz.prog ((World.laidAll Tryz.prog os Rows.syntaxPrintsUptoRow.laid).forCall (fun _ _ => 0) ⟨#[], #[.agg #[.int .i64 0, .string ByteArray.empty, .string ByteArray.empty, .int .i64 0, .int .i64 0, .int .u64 0, .int .u64 0, .slice none 0 0]], []⟩).memory Tryz.f3.params.toList Rows.syntaxPrintsSpec.vars false (#[.agg #[.int .i64 0, .string ByteArray.empty, .string ByteArray.empty, .int .i64 0, .int .i64 0, .int .u64 0, .int .u64 0, .slice none 0 0]] : Array Value).toList 8).map (fun x => (x.1, x.2.1)) = some ([.agg [.lit (.int .i64 0), .lit (.string []), .lit (.string []), .lit (.int .i64 0), .lit (.int .i64 0), .lit (.int .u64 0), .lit (.int .u64 0), .nil]], []) := by kernel_rfl
  obtain ⟨⟨x1, x2, x3⟩, hx, hx1⟩ := Option.map_eq_some_iff.1 hx0
  simp only [Prod.mk.injEq] at hx1
  obtain ⟨rfl, rfl⟩ := hx1
  refine returns_upto_and (C := Tryz.checked) (s := (Rows.OpenSpec.upto Rows.syntaxPrintsSpec)) (k := Rows.uptoSmall) (X := fun w _ => laidMetH Tryz.prog Rows.syntaxPrintsUptoRow.laid w) rfl (fun _ _ _ hh h => h.of_heap hh) own started (by kernel_rfl) Tryz.func3
    (witness_upto_and (enc := enc) (C := Tryz.checked) (s := (Rows.OpenSpec.upto Rows.syntaxPrintsSpec)) (k := Rows.uptoSmall) (X := fun w _ => laidMetH Tryz.prog Rows.syntaxPrintsUptoRow.laid w) rfl false (World.laidAll Tryz.prog os Rows.syntaxPrintsUptoRow.laid) #[.agg #[.int .i64 0, .string ByteArray.empty, .string ByteArray.empty, .int .i64 0, .int .i64 0, .int .u64 0, .int .u64 0, .slice none 0 0]] 8 (World.laidAll_os _ _ _)
      (World.shaped_of_ZipB (by kernel_rfl) (by kernel_rfl)) (by kernel_rfl) hx (by kernel_rfl) (by kernel_rfl) (by kernel_rfl)
      (by rw [MakeChecks.laidMetH_plain _ _ _ (by kernel_rfl)]; exact laidMet_laidAll _ (by kernel_rfl) (by kernel_rfl))) ?_
  intro W base args ds gs before hval0 hW hsz0 hbulk0 hX0
  have hsz : (DataW.weightsEach Tryz.prog (Tryz.f3.params.toList ++ Rows.syntaxPrintsSpec.plain.varTypes Tryz.prog) (ds ++ gs)).all (· ≤ reachBytes) = true := hsz0
  have hbulk : Rows.uptoBulkAll (ds ++ gs) ≤ 1048576 := of_decide_eq_true hbulk0
  clear hsz0
  have hval : ∀ (j : Nat) t v, Tryz.f3.params[j]? = some t → args[j]? = some v → Value.okWide Tryz.prog W .any base t v := hval0
  have hW' := hW
  obtain ⟨p, q, hA0, hV, rfl, hfz, hnd⟩ := hW
  have hA : DataW.TrodAll enc Tryz.prog W 0 (fun _ => true) true Tryz.f3.params.toList args.toList ds p := hA0
  rw [Tryz.params3] at hA hval hsz
  obtain ⟨v0, vs0, d0, ds0, p0, q0, hargs, rfl, rfl, h0, t0⟩ := trodAll_cons hA
  obtain ⟨rfl, rfl, rfl⟩ := trodAll_nil t0
  obtain rfl : args = #[v0] := by cases args; simp_all
  obtain ⟨rfl, rfl⟩ := trodVars_none hV
  have k0 := h0
  have lt0 : ∀ x ∈ p0, x.block < W.heap.size := by obtain ⟨m, hm⟩ := k0; exact DataW.trod_lt m _ _ _ hm
  obtain ⟨z0, q0, rfl, e0, hq0, b0, nu_⟩ := open_query_n ⟨_, _, _, _, _, _, _, _, Tryz.underlying25, by kernel_rfl, ⟨Tryz.underlying3, Tryz.underlying9, Tryz.underlying9, Tryz.underlying3, Tryz.underlying3, Tryz.underlying22, Tryz.underlying22, Tryz.underlying23⟩, ⟨by kernel_rfl, by kernel_rfl, by kernel_rfl, by kernel_rfl, by kernel_rfl, by kernel_rfl, by kernel_rfl, by kernel_rfl⟩, ⟨rfl, rfl, rfl, rfl, rfl, rfl, rfl, rfl⟩⟩ (hval 0 25 v0 rfl rfl) h0
  simp only [List.cons_append, List.nil_append, List.append_nil, Rows.uptoBulkAll, Rows.uptoBulk] at hbulk
  clear hA0 hval0
  have key := walk W (Go.Proofs.YthpodbngljfdmaaGreatDoor.gv_of hX0) z0 q0 e0 hq0 (by omega) nu_
  refine key.mono fun e W' ⟨he, bel⟩ => ?_
  subst he
  exact ⟨_, rfl, _, _, _, [], _, [], hW', trodAll_mk1 (shut_bool Tryz.underlying4 _), (trodAll_cons_mk (Below.trod laidOut (by kernel_rfl) (of_decide_eq_true (by kernel_rfl)) k0 bel lt0) trodAll_mk0), rfl, bel.frame _, fun h => by cases h⟩

theorem over : Rows.syntaxPrintsUptoRow.holds Tryz.pinned ((Rows.OpenSpec.upto Rows.syntaxPrintsSpec)) :=
  OpenClaim.holds_of_cond 3 Tryz.f3 rfl rfl rfl rfl rfl rfl rfl ⟨rfl, rfl, rfl, rfl, rfl⟩ rfl rfl rfl rfl rfl (by kernel_rfl) Tryz.func3 (by kernel_rfl)
    (of_decide_eq_true (by kernel_rfl)) (by unfold Func.isWrapper; first | (rw [if_pos (by decide +kernel)]; kernel_rfl) | (rw [if_neg (by decide +kernel)]; exact ⟨rfl, rfl⟩))
    (fun os started H enc _ F0 => lifted os started H enc F0)

theorem proved : Rows.SyntaxPrintsUptoCardSaid :=
  Claim7.holds_tied_plain_at .later [] [.data, .data, .data, .data, .sentinel, .sentinel, .pinned, .pinned] true (true, "92dd907c2696e20a69a6c613cc326d645d8f9911508ac4e8a5add0873d5f43c4") true over (fun _ h => by cases h) (by kernel_rfl) (fun _ h => by cases h) syntaxPrintsUpto_row_tie rfl ⟨rfl, rfl⟩ (by kernel_rfl) rfl
    (fun f fn hf hfn => by
      obtain rfl : f = 3 := Option.some.inj ((show Tryz.prog.funcNamed "gloss/glosslaw22.SyntaxPrints" = some 3 by kernel_rfl).symm.trans hf) |>.symm
      obtain rfl : fn = Tryz.f3 := (Option.some.inj (Tryz.func3.symm.trans hfn)).symm
      exact ⟨by kernel_rfl, fun j t ht => by
        rw [Tryz.params3] at ht
        have hm : t ∈ [25] := by simpa using Array.mem_of_getElem? ht
        have hall : ([25].all fun u => !Tryz.prog.wantsStandIn u) = true := by kernel_rfl
        exact (show Tryz.prog.wantsStandIn t = false by simpa using List.all_eq_true.1 hall t hm)⟩)
    (by kernel_rfl)
#print axioms proved
end Go.Proofs.YthpodbngljfdmaaGreatDoor.syntaxPrintsUptoCard
