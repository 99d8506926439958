/-
  'Rows.PostingBackUptoSaid' is proved: for every input that the row speaks of the law answers true, and its arguments read as they did. No further condition.
-/
import Derived.Test.YthimiheeheaaaaaRows
import Derived.Test.YthimiheeheaaaaaPosL
import Derived.Test.YthimiheeheaaaaaFrameU
import Derived.Test.YthimiheeheaaaaaFrameP
namespace Go.Proofs.Ythimiheeheaaaaa.postingBack
open Go.ChangeShapes Go.WideShapes Go.ChangeAt Go.RowKit Go.Gw
open Go.ChangeMaps (open_string shut_string)
set_option linter.unusedVariables false
set_option linter.unusedSimpArgs false

theorem own : ownKnob Try.prog.godebug = none := by kernel_rfl
theorem laidOut : laidOutB Try.prog = true := by kernel_rfl

theorem walk (W : World) (v0 : Value) (l0 : PS) (X0 : Nat → Value) (hv0 : Rd W 2 v0 l0.length (pcells l0 X0)) (hx0 : ∀ j, j < l0.length → Rd W 1 (X0 j) (l0.getD j zp).2.length (ivals .i64 (l0.getD j zp).2)) (r0 : l0.length * 32 ≤ 140737488351232) (n0 : l0.length ≤ 1048576) (rx0 : ∀ j, j < l0.length → (l0.getD j zp).2.length * 8 ≤ 140737488351232) (nx0 : ∀ j, j < l0.length → (l0.getD j zp).2.length ≤ 1048576) (nt0 : (Go.PostP.pls l0).length ≤ 1048576) (s1 : List UInt8) (r1 : s1.length ≤ 1048576) (s2 : List UInt8) (r2 : s2.length ≤ 1048576) :
    Calls Try.prog 5 #[v0, .string (sb s1), .string (sb s2)] W fun e W' => e = .returned (.bool true) ∧ Below W.heap.size W W' := by
  exact lback_c s1 s2 W v0 l0 X0 hv0 hx0 n0 nt0 (by omega) (by omega)

theorem bulk_pos {H : Type} (d : DataW H) : 1 ≤ Rows.uptoBulk d := by
  cases d with
  | lit v => cases v <;> simp [Rows.uptoBulk]
  | _ => simp [Rows.uptoBulk]
theorem bulk_len {H : Type} : ∀ l : List (DataW H), l.length ≤ Rows.uptoBulkAll l
  | [] => Nat.zero_le _
  | d :: l => by
    have h1 := bulk_len l
    have h2 := bulk_pos d
    simp only [Rows.uptoBulkAll, List.length_cons]
    omega
theorem bulk_mem {H : Type} {l : List (DataW H)} {d : DataW H} (h : d ∈ l) : Rows.uptoBulk d ≤ Rows.uptoBulkAll l := by
  induction l with
  | nil => cases h
  | cons x r ih =>
    simp only [Rows.uptoBulkAll]
    rcases List.mem_cons.1 h with rfl | h
    · omega
    · have := ih h; omega
theorem tot_le {H : Type} : ∀ (el : List (DataW H)) (L : PS), el.length = L.length → (∀ i, i < L.length → ∃ y, el[i]? = some y ∧ (L.getD i zp).2.length ≤ Rows.uptoBulk y) → (Go.PostP.pls L).length ≤ Rows.uptoBulkAll el
  | [], [], _, _ => Nat.zero_le _
  | d :: el, p :: L, h, hq => by
    obtain ⟨y, h1, h2⟩ := hq 0 (by simp)
    obtain rfl : d = y := by simpa using h1
    have h2 : p.2.length ≤ Rows.uptoBulk d := h2
    have ih := tot_le el L (by simpa using h) fun i hi => by
      obtain ⟨y, g1, g2⟩ := hq (i + 1) (by simpa using hi)
      exact ⟨y, by simpa using g1, by simpa [List.getD_eq_getElem?_getD] using g2⟩
    have e : Go.PostP.pls (p :: L) = Go.PackP.deltas p.2 ++ Go.PostP.pls L := by simp [Go.PostP.pls]
    rw [e, List.length_append, Go.PackP.deltas_len]
    simp only [Rows.uptoBulkAll]
    omega
  | [], _ :: _, h, _ => by simp at h
  | _ :: _, [], h, _ => by simp at h
set_option maxRecDepth 100000 in
theorem lifted (os : Os) (started : os.Started) (H : Type) (enc : TypeId × Value → H) (F : Stop.Interp) :
    ReturnsInHanded {} Try.checked os 5 .any ((Rows.OpenSpec.upto Rows.postingBackSpec).pre6 enc Try.prog Try.f5 Rows.postingBackUptoRow.domain false) (((Rows.OpenSpec.upto Rows.postingBackSpec).at F).post enc Try.prog Try.f5 false true false false) := by
  have hx0 : (DataW.whole enc Try.prog (World.plainHolding Try.prog os ⟨#[], #[.slice none 0 0, .string ByteArray.empty, .string ByteArray.empty], []⟩).memory Try.f5.params.toList Rows.postingBackSpec.vars false (⟨#[], #[.slice none 0 0, .string ByteArray.empty, .string ByteArray.empty], []⟩ : Input).args.toList 8).map (fun x => (x.1, x.2.1)) = some ([.nil, .lit (.string []), .lit (.string [])], []) := by kernel_rfl
  obtain ⟨⟨x1, x2, x3⟩, hx, hx1⟩ := Option.map_eq_some_iff.1 hx0
  simp only [Prod.mk.injEq] at hx1
  obtain ⟨rfl, rfl⟩ := hx1
  refine returns_upto (C := Try.checked) (s := (Rows.OpenSpec.upto Rows.postingBackSpec)) (k := Rows.uptoSmall) rfl own started (by kernel_rfl) Try.func5
    (OpenSpec.witness (enc := enc) (C := Try.checked) (s := (Rows.OpenSpec.upto Rows.postingBackSpec)) (k := Rows.uptoSmall) rfl false ⟨#[], #[.slice none 0 0, .string ByteArray.empty, .string ByteArray.empty], []⟩ 8 (by kernel_rfl) (by kernel_rfl) (by kernel_rfl) hx (by kernel_rfl) (by kernel_rfl) (by kernel_rfl)) ?_
  intro W base args ds gs before hval0 hW hsz0 hbulk0
  have hsz : (DataW.weightsEach Try.prog (Try.f5.params.toList ++ Rows.postingBackSpec.plain.varTypes Try.prog) (ds ++ gs)).all (· ≤ reachBytes) = true := hsz0
  have hbulk : Rows.uptoBulkAll (ds ++ gs) ≤ 1048576 := of_decide_eq_true hbulk0
  clear hsz0
  have hval : ∀ (j : Nat) t v, Try.f5.params[j]? = some t → args[j]? = some v → Value.okWide Try.prog W .any base t v := hval0
  have hW' := hW
  obtain ⟨p, q, hA0, hV, rfl, hfz, hnd⟩ := hW
  have hA : DataW.TrodAll enc Try.prog W 0 (fun _ => true) true Try.f5.params.toList args.toList ds p := hA0
  rw [Try.params5] at hA hval hsz
  obtain ⟨v0, vs0, d0, ds0, p0, q0, hargs, rfl, rfl, h0, t0⟩ := trodAll_cons hA
  obtain ⟨v1, vs1, d1, ds1, p1, q1, rfl, rfl, rfl, h1, t1⟩ := trodAll_cons t0
  obtain ⟨v2, vs2, d2, ds2, p2, q2, rfl, rfl, rfl, h2, t2⟩ := trodAll_cons t1
  obtain ⟨rfl, rfl, rfl⟩ := trodAll_nil t2
  obtain rfl : args = #[v0, v1, v2] := by cases args; simp_all
  obtain ⟨rfl, rfl⟩ := trodVars_none hV
  obtain ⟨b0, len0, cap0, rfl⟩ := okWide_slice Try.underlying22 (hval 0 22 v0 rfl rfl)
  have k0 := h0
  have lt0 : ∀ x ∈ p0, x.block < W.heap.size := by obtain ⟨m, hm⟩ := k0; exact DataW.trod_lt m _ _ _ hm
  obtain ⟨a1, rfl, rfl, rfl, w1⟩ := open_string Try.underlying9 (hval 1 9 v1 rfl rfl) h1
  obtain ⟨a2, rfl, rfl, rfl, w2⟩ := open_string Try.underlying9 (hval 2 9 v2 rfl rfl) h2
  have r1 := arg_string (j := 1) (t := 9) (s := a1) hsz rfl rfl
  have r2 := arg_string (j := 2) (t := 9) (s := a2) hsz rfl rfl
  obtain ⟨l0, X0, hv0, hx0, r0, n0, rx0, z0, sh0⟩ := arg_posts (j := 0) Try.underlying22 Try.underlying40 (by kernel_rfl) Try.underlying3 Try.underlying38 Try.underlying3 (by kernel_rfl) (by kernel_rfl) (by kernel_rfl) rfl rfl h0 hsz rfl rfl
  have e0 : Try.prog.bytesOf 40 = 32 := by kernel_rfl
  have ex0 : Try.prog.bytesOf 3 = 8 := by kernel_rfl
  rw [e0] at r0
  rw [ex0] at rx0
  have zb0 : l0.length ≤ Rows.uptoBulk d0 ∧ ∀ j, j < l0.length → (l0.getD j zp).2.length ≤ Rows.uptoBulk d0 := by
    rcases sh0 with ⟨q1, q2⟩ | ⟨el, sp, q1, q2, q3⟩
    · exact ⟨by omega, fun j h => by omega⟩
    · subst q1
      have := bulk_len el
      refine ⟨by simp only [Rows.uptoBulk]; omega, fun j h => ?_⟩
      obtain ⟨y0, y1, g1, g2⟩ := q3 j (by omega)
      have g3 := bulk_mem (List.mem_of_getElem? g1)
      simp only [Rows.uptoBulk, Rows.uptoBulkAll] at g3 ⊢
      rcases g2 with ⟨g4, g5⟩ | ⟨q, r, g4, g5⟩
      · omega
      · subst g4; have := bulk_len q; simp only [Rows.uptoBulk] at g3; omega
  have zt0 : (Go.PostP.pls l0).length ≤ Rows.uptoBulk d0 := by
    rcases sh0 with ⟨q1, q2⟩ | ⟨el, sp, q1, q2, q3⟩
    · rw [List.length_eq_zero_iff.1 (show l0.length = 0 by omega)]; exact Nat.zero_le _
    · subst q1
      have := tot_le el l0 (by omega) fun i hi => by
        obtain ⟨y0, y1, g1, g2⟩ := q3 i (by omega)
        refine ⟨_, g1, ?_⟩
        simp only [Rows.uptoBulk, Rows.uptoBulkAll]
        rcases g2 with ⟨g4, g5⟩ | ⟨q, r, g4, g5⟩
        · omega
        · subst g4; have := bulk_len q; simp only [Rows.uptoBulk]; omega
      simp only [Rows.uptoBulk]; omega
  have nx0 : ∀ j, j < l0.length → (l0.getD j zp).2.length ≤ 1048576 := fun j h => by have := zb0.2 j h; simp only [List.cons_append, List.nil_append, List.append_nil, Rows.uptoBulkAll] at hbulk; omega
  have nt0 : (Go.PostP.pls l0).length ≤ 1048576 := by have := zt0; simp only [List.cons_append, List.nil_append, List.append_nil, Rows.uptoBulkAll] at hbulk; omega
  have zc0 := zb0.1
  simp only [List.cons_append, List.nil_append, List.append_nil, Rows.uptoBulkAll, Rows.uptoBulk] at hbulk
  clear hA0 hval0
  have c1 : sb a1.data.toList = a1 := sb_of a1
  have c2 : sb a2.data.toList = a2 := sb_of a2
  have key := walk W _ l0 X0 hv0 hx0 r0 (by omega) rx0 nx0 nt0 a1.data.toList (by omega) a2.data.toList (by omega)
  rw [c1, c2] at key
  refine key.mono fun e W' ⟨he, bel⟩ => ?_
  subst he
  exact ⟨_, rfl, _, _, _, [], _, [], hW', trodAll_mk1 (shut_bool Try.underlying4 _), (trodAll_cons_mk (Below.trod laidOut (by kernel_rfl) (of_decide_eq_true (by kernel_rfl)) k0 bel lt0) (trodAll_cons_mk (shut_string Try.underlying9 w1) (trodAll_cons_mk (shut_string Try.underlying9 w2) trodAll_mk0))), rfl, bel.frame _, fun h => by cases h⟩

theorem over : Rows.postingBackUptoRow.holds Try.pinned ((Rows.OpenSpec.upto Rows.postingBackSpec)) :=
  OpenClaim.holds_of_cond 5 Try.f5 rfl rfl rfl rfl rfl rfl rfl ⟨rfl, rfl, rfl, rfl, rfl⟩ rfl rfl rfl rfl rfl (by kernel_rfl) Try.func5 (by kernel_rfl)
    (of_decide_eq_true (by kernel_rfl)) (by unfold Func.isWrapper; first | (rw [if_pos (by decide +kernel)]; kernel_rfl) | (rw [if_neg (by decide +kernel)]; exact ⟨rfl, rfl⟩))
    (fun os started H enc _ F0 => by rw [OpenClaim.pre_of_none' rfl]; exact lifted os started H enc F0)

theorem proved : Rows.PostingBackUptoSaid := over
#print axioms proved
end Go.Proofs.Ythimiheeheaaaaa.postingBack
