/-
  'Rows.BitpackBackUptoSaid' is proved: for every input that the row speaks of the law answers true, and its arguments read as they did. No further condition.
-/
import Derived.Test.YtehpfcpobemjfaaRows
import Derived.Test.YtehpfcpobemjfaaPackP2
import Derived.Test.YtehpfcpobemjfaaFrameU
namespace Go.Proofs.Ytehpfcpobemjfaa.bitpackBack
open Go.ChangeShapes Go.WideShapes Go.ChangeAt Go.RowKit Go.Gw
open Go.ChangeMaps (open_string shut_string)
set_option linter.unusedVariables false
set_option linter.unusedSimpArgs false

theorem own : ownKnob Try.prog.godebug = none := by kernel_rfl
theorem laidOut : laidOutB Try.prog = true := by kernel_rfl

theorem walk (W : World) (v0 : Value) (l0 : List Int) (hv0 : Rd W 1 v0 l0.length (ivals .i64 l0)) (wl0 : ∀ n ∈ l0, (Lit.int .i64 n).wf = true) (r0 : l0.length * 8 ≤ 140737488351232) (n0 : l0.length ≤ 1048576) (s1 : List UInt8) (r1 : s1.length ≤ 1048576) :
    Calls Try.prog 5 #[v0, .string (sb s1)] W fun e W' => e = .returned (.bool true) ∧ Below W.heap.size W W' := by
  exact lback_c v0 l0 s1 W hv0 (fun n hn => bounds_i64 (wl0 n hn)) (by omega) (by omega)

theorem bulk_pos {H : Type} (d : DataW H) : 1 ≤ Rows.uptoBulk d := by
  cases d with
  | lit v => cases v <;> simp [Rows.uptoBulk]
  | _ => simp [Rows.uptoBulk]
theorem bulk_len {H : Type} : ∀ l : List (DataW H), l.length ≤ Rows.uptoBulkAll l
  | [] => Nat.zero_le _
  | d :: l => by
    have h1 := bulk_len l
    have h2 := bulk_pos d
    simp only [Rows.uptoBulkAll, List.length_cons]
    omega
set_option maxRecDepth 100000 in
theorem lifted (os : Os) (started : os.Started) (H : Type) (enc : TypeId × Value → H) (F : Stop.Interp) :
    ReturnsInHanded {} Try.checked os 5 .any ((Rows.OpenSpec.upto Rows.bitpackBackSpec).pre6 enc Try.prog Try.f5 Rows.bitpackBackUptoRow.domain false) (((Rows.OpenSpec.upto Rows.bitpackBackSpec).at F).post enc Try.prog Try.f5 false true false false) := by
  have hx0 : (DataW.whole enc Try.prog (World.plainHolding Try.prog os ⟨#[], #[.slice none 0 0, .string ByteArray.empty], []⟩).memory Try.f5.params.toList Rows.bitpackBackSpec.vars false (⟨#[], #[.slice none 0 0, .string ByteArray.empty], []⟩ : Input).args.toList 8).map (fun x => (x.1, x.2.1)) = some ([.nil, .lit (.string [])], []) := by kernel_rfl
  obtain ⟨⟨x1, x2, x3⟩, hx, hx1⟩ := Option.map_eq_some_iff.1 hx0
  simp only [Prod.mk.injEq] at hx1
  obtain ⟨rfl, rfl⟩ := hx1
  refine returns_upto (C := Try.checked) (s := (Rows.OpenSpec.upto Rows.bitpackBackSpec)) (k := Rows.uptoSmall) rfl own started (by kernel_rfl) Try.func5
    (OpenSpec.witness (enc := enc) (C := Try.checked) (s := (Rows.OpenSpec.upto Rows.bitpackBackSpec)) (k := Rows.uptoSmall) rfl false ⟨#[], #[.slice none 0 0, .string ByteArray.empty], []⟩ 8 (by kernel_rfl) (by kernel_rfl) (by kernel_rfl) hx (by kernel_rfl) (by kernel_rfl) (by kernel_rfl)) ?_
  intro W base args ds gs before hval0 hW hsz0 hbulk0
  have hsz : (DataW.weightsEach Try.prog (Try.f5.params.toList ++ Rows.bitpackBackSpec.plain.varTypes Try.prog) (ds ++ gs)).all (· ≤ reachBytes) = true := hsz0
  have hbulk : Rows.uptoBulkAll (ds ++ gs) ≤ 1048576 := of_decide_eq_true hbulk0
  clear hsz0
  have hval : ∀ (j : Nat) t v, Try.f5.params[j]? = some t → args[j]? = some v → Value.okWide Try.prog W .any base t v := hval0
  have hW' := hW
  obtain ⟨p, q, hA0, hV, rfl, hfz, hnd⟩ := hW
  have hA : DataW.TrodAll enc Try.prog W 0 (fun _ => true) true Try.f5.params.toList args.toList ds p := hA0
  rw [Try.params5] at hA hval hsz
  obtain ⟨v0, vs0, d0, ds0, p0, q0, hargs, rfl, rfl, h0, t0⟩ := trodAll_cons hA
  obtain ⟨v1, vs1, d1, ds1, p1, q1, rfl, rfl, rfl, h1, t1⟩ := trodAll_cons t0
  obtain ⟨rfl, rfl, rfl⟩ := trodAll_nil t1
  obtain rfl : args = #[v0, v1] := by cases args; simp_all
  obtain ⟨rfl, rfl⟩ := trodVars_none hV
  obtain ⟨b0, len0, cap0, rfl⟩ := okWide_slice Try.underlying22 (hval 0 22 v0 rfl rfl)
  have k0 := h0
  have lt0 : ∀ x ∈ p0, x.block < W.heap.size := by obtain ⟨m, hm⟩ := k0; exact DataW.trod_lt m _ _ _ hm
  obtain ⟨a1, rfl, rfl, rfl, w1⟩ := open_string Try.underlying9 (hval 1 9 v1 rfl rfl) h1
  obtain ⟨l0, e0, hv0, wl0, r0, n0⟩ := arg_ints (j := 0) Try.underlying22 Try.underlying3 (by kernel_rfl) h0 hsz rfl rfl
  have z0 : l0.length ≤ Rows.uptoBulk d0 := by
    rw [e0]
    rcases arg_ints_d Try.underlying22 Try.underlying3 (by kernel_rfl) h0 with ⟨_, q⟩ | ⟨el, sp, q1, q2⟩
    · omega
    · subst q1; have := bulk_len el; simp only [Rows.uptoBulk]; omega
  have e0 : Try.prog.bytesOf 3 = 8 := by kernel_rfl
  rw [e0] at r0
  have r1 := arg_string (j := 1) (t := 9) (s := a1) hsz rfl rfl
  simp only [List.cons_append, List.nil_append, List.append_nil, Rows.uptoBulkAll, Rows.uptoBulk] at hbulk
  clear hA0 hval0
  have c1 : sb a1.data.toList = a1 := sb_of a1
  have key := walk W _ l0 hv0 wl0 r0 (by omega) a1.data.toList (by omega)
  rw [c1] at key
  refine key.mono fun e W' ⟨he, bel⟩ => ?_
  subst he
  exact ⟨_, rfl, _, _, _, [], _, [], hW', trodAll_mk1 (shut_bool Try.underlying4 _), (trodAll_cons_mk (Below.trod laidOut (by kernel_rfl) (of_decide_eq_true (by kernel_rfl)) k0 bel lt0) (trodAll_cons_mk (shut_string Try.underlying9 w1) trodAll_mk0)), rfl, bel.frame _, fun h => by cases h⟩

theorem over : Rows.bitpackBackUptoRow.holds Try.pinned ((Rows.OpenSpec.upto Rows.bitpackBackSpec)) :=
  OpenClaim.holds_of_cond 5 Try.f5 rfl rfl rfl rfl rfl rfl rfl ⟨rfl, rfl, rfl, rfl, rfl⟩ rfl rfl rfl rfl rfl (by kernel_rfl) Try.func5 (by kernel_rfl)
    (of_decide_eq_true (by kernel_rfl)) (by unfold Func.isWrapper; first | (rw [if_pos (by decide +kernel)]; kernel_rfl) | (rw [if_neg (by decide +kernel)]; exact ⟨rfl, rfl⟩))
    (fun os started H enc _ F0 => by rw [OpenClaim.pre_of_none' rfl]; exact lifted os started H enc F0)

theorem proved : Rows.BitpackBackUptoSaid := over
#print axioms proved
end Go.Proofs.Ytehpfcpobemjfaa.bitpackBack
