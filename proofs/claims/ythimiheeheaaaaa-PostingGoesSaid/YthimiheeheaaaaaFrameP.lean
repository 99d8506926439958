/-
  A slice of structs of a number and a slice of numbers, as a row tells of it. No condition beyond those that each theorem names.
-/
import Derived.Test.YthimiheeheaaaaaFrameS
import Derived.Test.YthimiheeheaaaaaPost
namespace Go.Gw
set_option linter.unusedVariables false
set_option linter.unusedSimpArgs false
open Go.ChangeShapes Go.WideShapes Go.ChangeAt Go.RowKit
section
variable {H : Type} {enc : TypeId × Value → H} {P : Program} {W : World} {t e : TypeId} {ts : List TypeId} {ds : List (DataW H)}
theorem weights_all {els : List (DataW H)} {i : Nat} {y : DataW H} (h : els[i]? = some y) {z : Nat} (hz : z ∈ y.weights P e) : z ∈ DataW.weightsAll P e els := by
  induction els generalizing i with
  | nil => simp at h
  | cons x r ih =>
    unfold DataW.weightsAll
    cases i with
    | zero => simp at h; subst h; exact List.mem_append_left _ hz
    | succ i => exact List.mem_append_right _ (ih (by simpa using h))
theorem arg_posts {f0 f1 : Field} {ei : TypeId} {a : Option Addr} {len cap : Nat} {d : DataW H} {p : List MemPlace} (hu : P.underlying t = some (.slice e)) (he : P.underlying e = some (.struct #[f0, f1])) (hc : P.cellsOf e = 2)
    (h1 : P.underlying f0.type = some (.int .i64)) (h2 : P.underlying f1.type = some (.slice ei)) (h3 : P.underlying ei = some (.int .i64)) (c1 : P.cellsOf f0.type = 1) (c2 : P.cellsOf f1.type = 1) (c3 : P.cellsOf ei = 1) (o1 : f0.offset = 0) (o2 : f1.offset = 1)
    (h : DataW.Trod enc P W 0 (fun _ => true) true t (.slice a len cap) d p) (hsz : (DataW.weightsEach P ts ds).all (· ≤ reachBytes) = true) {j : Nat} (ht : ts[j]? = some t) (hd : ds[j]? = some d) :
    ∃ (L : PS) (X : Nat → Value), Rd W 2 (.slice a len cap) L.length (pcells L X) ∧ (∀ j, j < L.length → Rd W 1 (X j) (L.getD j zp).2.length (ivals .i64 (L.getD j zp).2)) ∧ L.length * P.bytesOf e ≤ 140737488351232 ∧ L.length ≤ 9223372036854775807 ∧ (∀ j, j < L.length → (L.getD j zp).2.length * P.bytesOf ei ≤ 140737488351232) ∧ L.length = len ∧ (d = .nil ∧ len = 0 ∨ ∃ els sp, d = .slice els sp ∧ els.length = len ∧ ∀ i : Nat, i < len → ∃ y0 y1, els[i]? = some (.agg [y0, y1]) ∧ ((y1 = .nil ∧ (L.getD i zp).2.length = 0) ∨ ∃ q r, y1 = .slice q r ∧ q.length = (L.getD i zp).2.length)) := by
  obtain ⟨css, els, sp, n, hl, hel, hk, hrd, hb, hm, hdd, hat⟩ := arg_slice hu hc (by decide) h hsz ht hd
  have each : ∀ i : Nat, i < css.length → ∃ (q : Int × List Int) (x : Value), css[i]? = some [.int .i64 q.1, x] ∧ Rd W 1 x q.2.length (ivals .i64 q.2) ∧ q.2.length * P.bytesOf ei ≤ 140737488351232 ∧ ∃ y0 y1, els[i]? = some (.agg [y0, y1]) ∧ ((y1 = .nil ∧ q.2.length = 0) ∨ ∃ u r, y1 = .slice u r ∧ u.length = q.2.length) := by
    intro i hi
    have hci := List.getElem?_eq_getElem hi
    obtain ⟨y, qq, hy, htr⟩ := hat i css[i] hci
    have hcl := hk _ (List.getElem_mem hi)
    obtain ⟨y0, y1, m, hyy, _, t0, t1⟩ := trod_struct2 he htr
    match hcc : css[i], hcl with
    | [u0, u1], _ =>
      rw [hcc, o1, c1] at t0
      rw [hcc, o2, c2] at t1
      obtain ⟨n0, e0, _, w0⟩ := DataW.trod_int h1 t0
      simp at e0
      subst e0
      simp only [List.drop_succ_cons, List.drop_zero, List.take_succ_cons, List.take_zero] at t1
      obtain ⟨a1, l1, k1, hu1⟩ : ∃ a1 l1 k1, u1 = .slice a1 l1 k1 := by
        rcases DataW.trod_slice h2 t1 with ⟨z, _⟩ | ⟨x, l, c, _, _, _, _, z, _⟩
        · simp at z; exact ⟨_, _, _, z⟩
        · simp at z; exact ⟨_, _, _, z⟩
      subst hu1
      have htrod : DataW.Trod enc P W 0 (fun _ => true) true f1.type (.slice a1 l1 k1) y1.1 y1.2 := ⟨m, by simpa [Value.cells] using t1⟩
      simp only [Prod.mk.injEq] at hyy
      have hyd : y = .agg [y0.1, y1.1] := hyy.1
      have hsz1 : (DataW.weightsEach P [f1.type] [y1.1]).all (· ≤ reachBytes) = true := by
        rw [List.all_eq_true]
        intro z hz
        have hz1 : z ∈ y1.1.weights P f1.type := by simpa [DataW.weightsEach] using hz
        rcases hdd with ⟨hdn, hl0⟩ | hds
        · omega
        · have hz2 : z ∈ y.weights P e := by
            rw [hyd]
            simp only [DataW.weights, he]
            show z ∈ DataW.weightsEach P [f0.type, f1.type] [y0.1, y1.1]
            simp only [DataW.weightsEach, List.append_nil]
            exact List.mem_append_right _ hz1
          have hz3 : z ∈ d.weights P t := by
            rw [hds]
            simp only [DataW.weights, hu]
            exact List.mem_cons_of_mem _ (List.mem_append_left _ (weights_all hy hz2))
          exact List.all_eq_true.1 hsz z (DataW.weights_mem_each ht hd z hz3)
      obtain ⟨l, hll, hr, hw, hby, hlm⟩ := arg_ints h2 h3 c3 htrod hsz1 (j := 0) rfl rfl
      have hshape : (y1.1 = .nil ∧ l1 = 0) ∨ ∃ u r, y1.1 = .slice u r ∧ u.length = l1 := by
        rcases DataW.trod_slice h2 t1 with ⟨z, z2⟩ | ⟨x, l', c, elems, rest, _, _, z, z2, _, _, _, z3, _⟩
        · simp at z
          exact .inl ⟨by rw [z2], z.2.1⟩
        · simp at z
          exact .inr ⟨_, _, by rw [z2], by rw [List.length_map, z3]; exact z.2.1.symm⟩
      refine ⟨(n0, l), .slice a1 l1 k1, by rw [hci, hcc], hr, hby, y0.1, y1.1, by rw [hy, hyd], ?_⟩
      rw [← hll] at hshape
      exact hshape
  obtain ⟨f, hf⟩ : ∃ f : Nat → (Int × List Int) × Value, ∀ i, i < css.length → css[i]? = some [.int .i64 (f i).1.1, (f i).2] ∧ Rd W 1 (f i).2 (f i).1.2.length (ivals .i64 (f i).1.2) ∧ (f i).1.2.length * P.bytesOf ei ≤ 140737488351232 ∧ ∃ y0 y1, els[i]? = some (.agg [y0, y1]) ∧ ((y1 = .nil ∧ (f i).1.2.length = 0) ∨ ∃ u r, y1 = .slice u r ∧ u.length = (f i).1.2.length) := by
    refine ⟨fun i => if hi : i < css.length then ((each i hi).choose, (each i hi).choose_spec.choose) else (zp, .slice none 0 0), fun i hi => ?_⟩
    simp only [dif_pos hi]
    exact (each i hi).choose_spec.choose_spec
  have hLl : ((List.range css.length).map fun i => (f i).1).length = css.length := by simp
  have hLa : ∀ i, i < css.length → ((List.range css.length).map fun i => (f i).1).getD i zp = (f i).1 := by
    intro i hi
    simp [List.getD_eq_getElem?_getD, hi]
  refine ⟨(List.range css.length).map fun i => (f i).1, fun i => (f i).2, ?_, ?_, by rw [hLl]; exact hb, by rw [hLl]; exact hm, ?_, by rw [hLl, hl], ?_⟩
  · rw [hLl]
    have e0 : pcells ((List.range css.length).map fun i => (f i).1) (fun i => (f i).2) = css.flatten := by
      unfold pcells recs
      rw [hLl, List.flatMap_def]
      congr 1
      apply List.ext_getElem (by simp)
      intro i g1 g2
      have hi : i < css.length := g2
      rw [List.getElem_map, List.getElem_range]
      unfold pf
      rw [hLa i hi]
      have := (hf i hi).1
      rw [List.getElem?_eq_getElem hi, Option.some.injEq] at this
      exact this.symm
    rw [e0]; exact hrd
  · intro i hi
    rw [hLl] at hi
    rw [hLa i hi]; exact (hf i hi).2.1
  · intro i hi
    rw [hLl] at hi
    rw [hLa i hi]; exact (hf i hi).2.2.1
  · rcases hdd with z | z
    · exact .inl z
    · refine .inr ⟨els, sp, z, hel, fun i hi => ?_⟩
      rw [hLa i (by omega)]
      exact (hf i (by omega)).2.2.2
end
end Go.Gw
