/-
  'Rows.QueryPartsUptoSaid' is proved: for every input that the row speaks of the law answers true, and its arguments read as they did. No further condition.
-/
import Derived.Test.YtnhplkkbpmijdaaRows
import Derived.Test.YtnhplkkbpmijdaaQryQ
import Derived.Test.YtnhplkkbpmijdaaFrameU
import Derived.Test.YtnhplkkbpmijdaaQryZ
namespace Go.Proofs.Ytnhplkkbpmijdaa.queryParts
open Go.ChangeShapes Go.WideShapes Go.ChangeAt Go.RowKit Go.Gw Go.QryP
open Go.ChangeMaps (open_string shut_string)
set_option linter.unusedVariables false
set_option linter.unusedSimpArgs false

theorem own : ownKnob Try.prog.godebug = none := by kernel_rfl
theorem laidOut : laidOutB Try.prog = true := by kernel_rfl

theorem walk (W : World) (z0 : QN) (q0 : Q) (e0 : z0.h = q0.h) (hq0 : RdQ W q0 z0.parts) (b0 : bulkQ q0 + 8 ≤ 1048576) (z1 : QN) (q1 : Q) (e1 : z1.h = q1.h) (hq1 : RdQ W q1 z1.parts) (b1 : bulkQ q1 + 8 ≤ 1048576) (hab : bulkQ q0 + bulkQ q1 + 10 ≤ 1048576) :
    Calls Try.prog 6 #[.agg #[.int .i64 z0.h.op, .string (sb z0.h.field), .string (sb z0.h.text), .int .i64 z0.h.edits, .int .i64 z0.h.exact, .int .u64 z0.h.lo, .int .u64 z0.h.hi, z0.parts], .agg #[.int .i64 z1.h.op, .string (sb z1.h.field), .string (sb z1.h.text), .int .i64 z1.h.edits, .int .i64 z1.h.exact, .int .u64 z1.h.lo, .int .u64 z1.h.hi, z1.parts]] W fun e W' => e = .returned (.bool true) ∧ Below W.heap.size W W' := by
  exact Go.Proofs.Ytnhplkkbpmijdaa.lparts_c q0 z0.h e0 z0.parts hq0 (by omega) q1 z1.h e1 z1.parts hq1 (by omega) hab

theorem bulk_pos {H : Type} (d : DataW H) : 1 ≤ Rows.uptoBulk d := by
  cases d with
  | lit v => cases v <;> simp [Rows.uptoBulk]
  | _ => simp [Rows.uptoBulk]
theorem bulk_len {H : Type} : ∀ l : List (DataW H), l.length ≤ Rows.uptoBulkAll l
  | [] => Nat.zero_le _
  | d :: l => by
    have h1 := bulk_len l
    have h2 := bulk_pos d
    simp only [Rows.uptoBulkAll, List.length_cons]
    omega
theorem bulk_mem {H : Type} {l : List (DataW H)} {d : DataW H} (h : d ∈ l) : Rows.uptoBulk d ≤ Rows.uptoBulkAll l := by
  induction l with
  | nil => cases h
  | cons x r ih =>
    simp only [Rows.uptoBulkAll]
    rcases List.mem_cons.1 h with rfl | h
    · omega
    · have := ih h; omega
set_option maxRecDepth 100000 in
theorem lifted (os : Os) (started : os.Started) (H : Type) (enc : TypeId × Value → H) (F : Stop.Interp) :
    ReturnsInHanded {} Try.checked os 6 .any ((Rows.OpenSpec.upto Rows.queryPartsSpec).pre6 enc Try.prog Try.f6 Rows.queryPartsUptoRow.domain false) (((Rows.OpenSpec.upto Rows.queryPartsSpec).at F).post enc Try.prog Try.f6 false true false false) := by
  have hx0 : (DataW.whole enc Try.prog (World.plainHolding Try.prog os ⟨#[], #[.agg #[.int .i64 0, .string ByteArray.empty, .string ByteArray.empty, .int .i64 0, .int .i64 0, .int .u64 0, .int .u64 0, .slice none 0 0], .agg #[.int .i64 0, .string ByteArray.empty, .string ByteArray.empty, .int .i64 0, .int .i64 0, .int .u64 0, .int .u64 0, .slice none 0 0]], []⟩).memory Try.f6.params.toList Rows.queryPartsSpec.vars false (⟨#[], #[.agg #[.int .i64 0, .string ByteArray.empty, .string ByteArray.empty, .int .i64 0, .int .i64 0, .int .u64 0, .int .u64 0, .slice none 0 0], .agg #[.int .i64 0, .string ByteArray.empty, .string ByteArray.empty, .int .i64 0, .int .i64 0, .int .u64 0, .int .u64 0, .slice none 0 0]], []⟩ : Input).args.toList 8).map (fun x => (x.1, x.2.1)) = some ([.agg [.lit (.int .i64 0), .lit (.string []), .lit (.string []), .lit (.int .i64 0), .lit (.int .i64 0), .lit (.int .u64 0), .lit (.int .u64 0), .nil], .agg [.lit (.int .i64 0), .lit (.string []), .lit (.string []), .lit (.int .i64 0), .lit (.int .i64 0), .lit (.int .u64 0), .lit (.int .u64 0), .nil]], []) := by kernel_rfl
  obtain ⟨⟨x1, x2, x3⟩, hx, hx1⟩ := Option.map_eq_some_iff.1 hx0
  simp only [Prod.mk.injEq] at hx1
  obtain ⟨rfl, rfl⟩ := hx1
  refine returns_upto (C := Try.checked) (s := (Rows.OpenSpec.upto Rows.queryPartsSpec)) (k := Rows.uptoSmall) rfl own started (by kernel_rfl) Try.func6
    (OpenSpec.witness (enc := enc) (C := Try.checked) (s := (Rows.OpenSpec.upto Rows.queryPartsSpec)) (k := Rows.uptoSmall) rfl false ⟨#[], #[.agg #[.int .i64 0, .string ByteArray.empty, .string ByteArray.empty, .int .i64 0, .int .i64 0, .int .u64 0, .int .u64 0, .slice none 0 0], .agg #[.int .i64 0, .string ByteArray.empty, .string ByteArray.empty, .int .i64 0, .int .i64 0, .int .u64 0, .int .u64 0, .slice none 0 0]], []⟩ 8 (by kernel_rfl) (by kernel_rfl) (by kernel_rfl) hx (by kernel_rfl) (by kernel_rfl) (by kernel_rfl)) ?_
  intro W base args ds gs before hval0 hW hsz0 hbulk0
  have hsz : (DataW.weightsEach Try.prog (Try.f6.params.toList ++ Rows.queryPartsSpec.plain.varTypes Try.prog) (ds ++ gs)).all (· ≤ reachBytes) = true := hsz0
  have hbulk : Rows.uptoBulkAll (ds ++ gs) ≤ 1048576 := of_decide_eq_true hbulk0
  clear hsz0
  have hval : ∀ (j : Nat) t v, Try.f6.params[j]? = some t → args[j]? = some v → Value.okWide Try.prog W .any base t v := hval0
  have hW' := hW
  obtain ⟨p, q, hA0, hV, rfl, hfz, hnd⟩ := hW
  have hA : DataW.TrodAll enc Try.prog W 0 (fun _ => true) true Try.f6.params.toList args.toList ds p := hA0
  rw [Try.params6] at hA hval hsz
  obtain ⟨v0, vs0, d0, ds0, p0, q0, hargs, rfl, rfl, h0, t0⟩ := trodAll_cons hA
  obtain ⟨v1, vs1, d1, ds1, p1, q1, rfl, rfl, rfl, h1, t1⟩ := trodAll_cons t0
  obtain ⟨rfl, rfl, rfl⟩ := trodAll_nil t1
  obtain rfl : args = #[v0, v1] := by cases args; simp_all
  obtain ⟨rfl, rfl⟩ := trodVars_none hV
  have k0 := h0
  have lt0 : ∀ x ∈ p0, x.block < W.heap.size := by obtain ⟨m, hm⟩ := k0; exact DataW.trod_lt m _ _ _ hm
  obtain ⟨z0, q0, rfl, e0, hq0, b0⟩ := open_query ⟨_, _, _, _, _, _, _, _, Try.underlying25, by kernel_rfl, ⟨Try.underlying3, Try.underlying9, Try.underlying9, Try.underlying3, Try.underlying3, Try.underlying22, Try.underlying22, Try.underlying23⟩, ⟨by kernel_rfl, by kernel_rfl, by kernel_rfl, by kernel_rfl, by kernel_rfl, by kernel_rfl, by kernel_rfl, by kernel_rfl⟩, ⟨rfl, rfl, rfl, rfl, rfl, rfl, rfl, rfl⟩⟩ (hval 0 25 v0 rfl rfl) h0
  have k1 := h1
  have lt1 : ∀ x ∈ p1, x.block < W.heap.size := by obtain ⟨m, hm⟩ := k1; exact DataW.trod_lt m _ _ _ hm
  obtain ⟨z1, q1, rfl, e1, hq1, b1⟩ := open_query ⟨_, _, _, _, _, _, _, _, Try.underlying25, by kernel_rfl, ⟨Try.underlying3, Try.underlying9, Try.underlying9, Try.underlying3, Try.underlying3, Try.underlying22, Try.underlying22, Try.underlying23⟩, ⟨by kernel_rfl, by kernel_rfl, by kernel_rfl, by kernel_rfl, by kernel_rfl, by kernel_rfl, by kernel_rfl, by kernel_rfl⟩, ⟨rfl, rfl, rfl, rfl, rfl, rfl, rfl, rfl⟩⟩ (hval 1 25 v1 rfl rfl) h1
  simp only [List.cons_append, List.nil_append, List.append_nil, Rows.uptoBulkAll, Rows.uptoBulk] at hbulk
  clear hA0 hval0
  have key := walk W z0 q0 e0 hq0 (by omega) z1 q1 e1 hq1 (by omega) (by omega)
  refine key.mono fun e W' ⟨he, bel⟩ => ?_
  subst he
  exact ⟨_, rfl, _, _, _, [], _, [], hW', trodAll_mk1 (shut_bool Try.underlying4 _), (trodAll_cons_mk (Below.trod laidOut (by kernel_rfl) (of_decide_eq_true (by kernel_rfl)) k0 bel lt0) (trodAll_cons_mk (Below.trod laidOut (by kernel_rfl) (of_decide_eq_true (by kernel_rfl)) k1 bel lt1) trodAll_mk0)), rfl, bel.frame _, fun h => by cases h⟩

theorem over : Rows.queryPartsUptoRow.holds Try.pinned ((Rows.OpenSpec.upto Rows.queryPartsSpec)) :=
  OpenClaim.holds_of_cond 6 Try.f6 rfl rfl rfl rfl rfl rfl rfl ⟨rfl, rfl, rfl, rfl, rfl⟩ rfl rfl rfl rfl rfl (by kernel_rfl) Try.func6 (by kernel_rfl)
    (of_decide_eq_true (by kernel_rfl)) (by unfold Func.isWrapper; first | (rw [if_pos (by decide +kernel)]; kernel_rfl) | (rw [if_neg (by decide +kernel)]; exact ⟨rfl, rfl⟩))
    (fun os started H enc _ F0 => by rw [OpenClaim.pre_of_none' rfl]; exact lifted os started H enc F0)

theorem proved : Rows.QueryPartsUptoSaid := over
#print axioms proved
end Go.Proofs.Ytnhplkkbpmijdaa.queryParts
