/-
  'Rows.UtfBackUptoSaid' is proved: for every input that the row speaks of the law answers true, and its arguments read as they did. No further condition.
-/
import Derived.Test.YteddiaonklkdiaaRows
import Derived.Test.YteddiaonklkdiaaUtfWB
import Derived.Test.YteddiaonklkdiaaFrameU
namespace Go.Proofs.Yteddiaonklkdiaa.utfBack
open Go.ChangeShapes Go.WideShapes Go.ChangeAt Go.RowKit Go.Gw
open Go.ChangeMaps (open_string shut_string)
set_option linter.unusedVariables false
set_option linter.unusedSimpArgs false

theorem own : ownKnob Try.prog.godebug = none := by kernel_rfl
theorem laidOut : laidOutB Try.prog = true := by kernel_rfl

theorem walk (W : World) (v0 : Value) (l0 : List Int) (hv0 : Rd W 1 v0 l0.length (ivals .i64 l0)) (wl0 : ∀ n ∈ l0, (Lit.int .i64 n).wf = true) (r0 : l0.length * 8 ≤ 140737488351232) (n0 : l0.length ≤ 1048576) (v1 : Value) (l1 : List Int) (hv1 : Rd W 1 v1 l1.length (ivals .i64 l1)) (wl1 : ∀ n ∈ l1, (Lit.int .i64 n).wf = true) (r1 : l1.length * 8 ≤ 140737488351232) (n1 : l1.length ≤ 1048576) (s2 : List UInt8) (r2 : s2.length ≤ 1048576) :
    Calls Try.prog 6 #[v0, v1, .string (sb s2)] W fun e W' => e = .returned (.bool true) ∧ Below W.heap.size W W' := by
  exact lback_c v0 v1 l0 l1 s2 W hv0 hv1 n0 n1 r2

theorem bulk_pos {H : Type} (d : DataW H) : 1 ≤ Rows.uptoBulk d := by
  cases d with
  | lit v => cases v <;> simp [Rows.uptoBulk]
  | _ => simp [Rows.uptoBulk]
theorem bulk_len {H : Type} : ∀ l : List (DataW H), l.length ≤ Rows.uptoBulkAll l
  | [] => Nat.zero_le _
  | d :: l => by
    have h1 := bulk_len l
    have h2 := bulk_pos d
    simp only [Rows.uptoBulkAll, List.length_cons]
    omega
set_option maxRecDepth 100000 in
theorem lifted (os : Os) (started : os.Started) (H : Type) (enc : TypeId × Value → H) (F : Stop.Interp) :
    ReturnsInHanded {} Try.checked os 6 .any ((Rows.OpenSpec.upto Rows.utfBackSpec).pre6 enc Try.prog Try.f6 Rows.utfBackUptoRow.domain false) (((Rows.OpenSpec.upto Rows.utfBackSpec).at F).post enc Try.prog Try.f6 false true false false) := by
  have hx0 : (DataW.whole enc Try.prog (World.plainHolding Try.prog os ⟨#[], #[.slice none 0 0, .slice none 0 0, .string ByteArray.empty], []⟩).memory Try.f6.params.toList Rows.utfBackSpec.vars false (⟨#[], #[.slice none 0 0, .slice none 0 0, .string ByteArray.empty], []⟩ : Input).args.toList 8).map (fun x => (x.1, x.2.1)) = some ([.nil, .nil, .lit (.string [])], []) := by kernel_rfl
  obtain ⟨⟨x1, x2, x3⟩, hx, hx1⟩ := Option.map_eq_some_iff.1 hx0
  simp only [Prod.mk.injEq] at hx1
  obtain ⟨rfl, rfl⟩ := hx1
  refine returns_upto (C := Try.checked) (s := (Rows.OpenSpec.upto Rows.utfBackSpec)) (k := Rows.uptoSmall) rfl own started (by kernel_rfl) Try.func6
    (OpenSpec.witness (enc := enc) (C := Try.checked) (s := (Rows.OpenSpec.upto Rows.utfBackSpec)) (k := Rows.uptoSmall) rfl false ⟨#[], #[.slice none 0 0, .slice none 0 0, .string ByteArray.empty], []⟩ 8 (by kernel_rfl) (by kernel_rfl) (by kernel_rfl) hx (by kernel_rfl) (by kernel_rfl) (by kernel_rfl)) ?_
  intro W base args ds gs before hval0 hW hsz0 hbulk0
  have hsz : (DataW.weightsEach Try.prog (Try.f6.params.toList ++ Rows.utfBackSpec.plain.varTypes Try.prog) (ds ++ gs)).all (· ≤ reachBytes) = true := hsz0
  have hbulk : Rows.uptoBulkAll (ds ++ gs) ≤ 1048576 := of_decide_eq_true hbulk0
  clear hsz0
  have hval : ∀ (j : Nat) t v, Try.f6.params[j]? = some t → args[j]? = some v → Value.okWide Try.prog W .any base t v := hval0
  have hW' := hW
  obtain ⟨p, q, hA0, hV, rfl, hfz, hnd⟩ := hW
  have hA : DataW.TrodAll enc Try.prog W 0 (fun _ => true) true Try.f6.params.toList args.toList ds p := hA0
  rw [Try.params6] at hA hval hsz
  obtain ⟨v0, vs0, d0, ds0, p0, q0, hargs, rfl, rfl, h0, t0⟩ := trodAll_cons hA
  obtain ⟨v1, vs1, d1, ds1, p1, q1, rfl, rfl, rfl, h1, t1⟩ := trodAll_cons t0
  obtain ⟨v2, vs2, d2, ds2, p2, q2, rfl, rfl, rfl, h2, t2⟩ := trodAll_cons t1
  obtain ⟨rfl, rfl, rfl⟩ := trodAll_nil t2
  obtain rfl : args = #[v0, v1, v2] := by cases args; simp_all
  obtain ⟨rfl, rfl⟩ := trodVars_none hV
  obtain ⟨b0, len0, cap0, rfl⟩ := okWide_slice Try.underlying22 (hval 0 22 v0 rfl rfl)
  have k0 := h0
  have lt0 : ∀ x ∈ p0, x.block < W.heap.size := by obtain ⟨m, hm⟩ := k0; exact DataW.trod_lt m _ _ _ hm
  obtain ⟨b1, len1, cap1, rfl⟩ := okWide_slice Try.underlying22 (hval 1 22 v1 rfl rfl)
  have k1 := h1
  have lt1 : ∀ x ∈ p1, x.block < W.heap.size := by obtain ⟨m, hm⟩ := k1; exact DataW.trod_lt m _ _ _ hm
  obtain ⟨a2, rfl, rfl, rfl, w2⟩ := open_string Try.underlying9 (hval 2 9 v2 rfl rfl) h2
  obtain ⟨l0, e0, hv0, wl0, r0, n0⟩ := arg_ints (j := 0) Try.underlying22 Try.underlying3 (by kernel_rfl) h0 hsz rfl rfl
  have z0 : l0.length ≤ Rows.uptoBulk d0 := by
    rw [e0]
    rcases arg_ints_d Try.underlying22 Try.underlying3 (by kernel_rfl) h0 with ⟨_, q⟩ | ⟨el, sp, q1, q2⟩
    · omega
    · subst q1; have := bulk_len el; simp only [Rows.uptoBulk]; omega
  have e0 : Try.prog.bytesOf 3 = 8 := by kernel_rfl
  rw [e0] at r0
  obtain ⟨l1, e1, hv1, wl1, r1, n1⟩ := arg_ints (j := 1) Try.underlying22 Try.underlying3 (by kernel_rfl) h1 hsz rfl rfl
  have z1 : l1.length ≤ Rows.uptoBulk d1 := by
    rw [e1]
    rcases arg_ints_d Try.underlying22 Try.underlying3 (by kernel_rfl) h1 with ⟨_, q⟩ | ⟨el, sp, q1, q2⟩
    · omega
    · subst q1; have := bulk_len el; simp only [Rows.uptoBulk]; omega
  have e1 : Try.prog.bytesOf 3 = 8 := by kernel_rfl
  rw [e1] at r1
  have r2 := arg_string (j := 2) (t := 9) (s := a2) hsz rfl rfl
  simp only [List.cons_append, List.nil_append, List.append_nil, Rows.uptoBulkAll, Rows.uptoBulk] at hbulk
  clear hA0 hval0
  have c2 : sb a2.data.toList = a2 := sb_of a2
  have key := walk W _ l0 hv0 wl0 r0 (by omega) _ l1 hv1 wl1 r1 (by omega) a2.data.toList (by omega)
  rw [c2] at key
  refine key.mono fun e W' ⟨he, bel⟩ => ?_
  subst he
  exact ⟨_, rfl, _, _, _, [], _, [], hW', trodAll_mk1 (shut_bool Try.underlying4 _), (trodAll_cons_mk (Below.trod laidOut (by kernel_rfl) (of_decide_eq_true (by kernel_rfl)) k0 bel lt0) (trodAll_cons_mk (Below.trod laidOut (by kernel_rfl) (of_decide_eq_true (by kernel_rfl)) k1 bel lt1) (trodAll_cons_mk (shut_string Try.underlying9 w2) trodAll_mk0))), rfl, bel.frame _, fun h => by cases h⟩

theorem over : Rows.utfBackUptoRow.holds Try.pinned ((Rows.OpenSpec.upto Rows.utfBackSpec)) :=
  OpenClaim.holds_of_cond 6 Try.f6 rfl rfl rfl rfl rfl rfl rfl ⟨rfl, rfl, rfl, rfl, rfl⟩ rfl rfl rfl rfl rfl (by kernel_rfl) Try.func6 (by kernel_rfl)
    (of_decide_eq_true (by kernel_rfl)) (by unfold Func.isWrapper; first | (rw [if_pos (by decide +kernel)]; kernel_rfl) | (rw [if_neg (by decide +kernel)]; exact ⟨rfl, rfl⟩))
    (fun os started H enc _ F0 => by rw [OpenClaim.pre_of_none' rfl]; exact lifted os started H enc F0)

theorem proved : Rows.UtfBackUptoSaid := over
#print axioms proved
end Go.Proofs.Yteddiaonklkdiaa.utfBack
