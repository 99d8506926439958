/-
  A slice of structs, as a row tells of it: the cells, one struct behind the other. No condition beyond those that each theorem names.
-/
import Derived.Test.YtnhplkkbpmijdaaFrame
import Derived.ChangeSame
namespace Go.Gw
set_option linter.unusedVariables false
set_option linter.unusedSimpArgs false
open Go.ChangeShapes Go.WideShapes Go.ChangeAt Go.RowKit
section
variable {H : Type} {enc : TypeId × Value → H} {P : Program} {W : World} {t e : TypeId} {ts : List TypeId} {ds : List (DataW H)}
theorem cells_at {w : World} {b : Nat} {x : Addr} : ∀ {k : Nat} {cs : List Value}, w.cells? b x k = some cs → cs.length = k ∧ ∀ i u, cs[i]? = some u → w.cell? (x.add i) = some u := by
  intro k cs h
  unfold World.cells? at h
  split at h
  · have hl := mapM_some_length h
    refine ⟨by simpa using hl, fun i u hu => ?_⟩
    have hi : i < k := by
      have := (List.getElem?_eq_some_iff.1 hu).1
      have hl2 : cs.length = k := by simpa using hl
      omega
    have := mapM_some_get h i i (by simp [hi])
    rw [this, hu]
  · cases h
/-- a list of lists, one behind the other, each of k -/
theorem flat_at {css : List (List Value)} {k : Nat} (hk : ∀ c ∈ css, c.length = k) (h0 : 0 < k) : css.flatten.length = css.length * k ∧ ∀ j u, css.flatten[j]? = some u → ∃ c, css[j / k]? = some c ∧ c[j % k]? = some u := by
  induction css with
  | nil => exact ⟨by simp, fun j u h => by simp at h⟩
  | cons c css ih =>
    have hc := hk c (List.mem_cons_self ..)
    obtain ⟨i1, i2⟩ := ih (fun c hc => hk c (List.mem_cons_of_mem _ hc))
    refine ⟨by simp only [List.flatten_cons, List.length_append, List.length_cons, i1, hc, Nat.succ_mul]; omega, fun j u h => ?_⟩
    rw [List.flatten_cons] at h
    rcases Nat.lt_or_ge j k with hj | hj
    · rw [List.getElem?_append_left (by omega)] at h
      exact ⟨c, by rw [Nat.div_eq_of_lt hj]; rfl, by rwa [Nat.mod_eq_of_lt hj]⟩
    · rw [List.getElem?_append_right (by omega), hc] at h
      obtain ⟨c', h1, h2⟩ := i2 _ _ h
      refine ⟨c', ?_, ?_⟩
      · have : j / k = (j - k) / k + 1 := by
          rw [Nat.div_eq_sub_div h0 hj]
        rw [this]; exact h1
      · rw [Nat.mod_eq_sub_mod hj]; exact h2
/-- a slice whose elements are k cells each: the cells of each, and each one's reading -/
theorem arg_slice {k : Nat} {a : Option Addr} {len cap : Nat} {d : DataW H} {p : List MemPlace} (hu : P.underlying t = some (.slice e)) (hc : P.cellsOf e = k) (h0 : 0 < k)
    (h : DataW.Trod enc P W 0 (fun _ => true) true t (.slice a len cap) d p) (hsz : (DataW.weightsEach P ts ds).all (· ≤ reachBytes) = true) {j : Nat} (ht : ts[j]? = some t) (hd : ds[j]? = some d) :
    ∃ (css : List (List Value)) (els sp : List (DataW H)) (n : Nat), css.length = len ∧ els.length = len ∧ (∀ c ∈ css, c.length = k) ∧ Rd W k (.slice a len cap) css.length css.flatten ∧ css.length * P.bytesOf e ≤ 140737488351232 ∧ css.length ≤ 9223372036854775807 ∧
      (d = .nil ∧ len = 0 ∨ d = .slice els sp) ∧ ∀ (i : Nat) (c : List Value), css[i]? = some c → ∃ y q, els[i]? = some y ∧ DataW.trod enc P W 0 (fun _ => true) true n e c = some (y, q) := by
  obtain ⟨fuel, hf⟩ := h
  rcases DataW.trod_slice hu hf with ⟨hcs, hx⟩ | ⟨x, l, c, elems, rest, n, _, hcs, hx, _, hl, hm, hlen, hel, _⟩
  · simp [Value.cells] at hcs
    obtain ⟨rfl, rfl, rfl⟩ := hcs
    simp only [Prod.mk.injEq] at hx
    exact ⟨[], [], [], 0, rfl, rfl, by simp, by simpa using Rd.nil W k, by simp, by simp, .inl ⟨hx.1, rfl⟩, by simp⟩
  · simp [Value.cells] at hcs
    obtain ⟨rfl, rfl, rfl⟩ := hcs
    simp only [Prod.mk.injEq] at hx
    have hs := sized_slice hsz ht (by rw [hd, hx.1]) hu
    simp only [List.length_map] at hs
    rw [hc] at hel
    have hex : ∀ i, i < len → ∃ cs, W.cells? 0 (x.add (i * k)) k = some cs ∧ ∃ y q, (elems.map (·.1))[i]? = some y ∧ DataW.trod enc P W 0 (fun _ => true) true n e cs = some (y, q) := by
      intro i hi
      have hE := hel i hi
      rw [List.getElem?_eq_getElem (by omega), Option.bind_eq_some_iff] at hE
      obtain ⟨cs, h1, h2⟩ := hE
      exact ⟨cs, h1, elems[i].1, elems[i].2, by rw [List.getElem?_map, List.getElem?_eq_getElem (by omega)]; rfl, h2⟩
    obtain ⟨css, hl1, hat⟩ : ∃ css : List (List Value), css.length = len ∧ ∀ i c, css[i]? = some c → W.cells? 0 (x.add (i * k)) k = some c ∧ ∃ y q, (elems.map (·.1))[i]? = some y ∧ DataW.trod enc P W 0 (fun _ => true) true n e c = some (y, q) := by
      refine ⟨(List.range len).map fun i => (W.cells? 0 (x.add (i * k)) k).getD [], by simp, fun i c hi => ?_⟩
      have hi2 : i < len := by
        have := (List.getElem?_eq_some_iff.1 hi).1
        simpa using this
      obtain ⟨cs, h1, h2⟩ := hex i hi2
      have : c = cs := by
        simp [List.getElem?_map, List.getElem?_range hi2, h1] at hi
        exact hi.symm
      subst this
      exact ⟨h1, h2⟩
    have hk : ∀ c ∈ css, c.length = k := by
      intro c hc'
      obtain ⟨i, hi⟩ := List.getElem?_of_mem hc'
      exact (cells_at (hat i c hi).1).1
    obtain ⟨f1, f2⟩ := flat_at hk h0
    have hb : css.length * P.bytesOf e ≤ 140737488351232 := by
      have : css.length * P.bytesOf e ≤ (elems.length + rest.length) * P.bytesOf e := Nat.mul_le_mul_right _ (by omega)
      have h2 : reachBytes = 140737488351232 := rfl
      omega
    refine ⟨css, elems.map (·.1), rest.map (·.1), n, hl1, by simpa using hlen, hk, ?_, hb, by simp only [maxLen] at hm; omega, .inr hx.1, fun i c hi => (hat i c hi).2⟩
    refine ⟨f1, some x, cap, by rw [hl1], by omega, hm, (fun z => by cases z), fun ad z => ?_⟩
    simp only [Option.some.injEq] at z
    subst z
    have each : ∀ j' u, css.flatten[j']? = some u → W.cell? (x.add j') = some u := by
      intro j' u hj
      obtain ⟨c, h1, h2⟩ := f2 j' u hj
      have h3 := (cells_at (hat _ c h1).1).2 _ u h2
      have e1 : (x.add (j' / k * k)).add (j' % k) = x.add j' := by
        have e2 : j' / k * k + j' % k = j' := by rw [Nat.mul_comm]; exact Nat.div_add_mod j' k
        rw [Addr.add_add, e2]
      rwa [e1] at h3
    by_cases hpos : css.flatten = []
    · exact ⟨.inl hpos, fun j' u hj => by rw [hpos] at hj; simp at hj⟩
    · have hsp : x.spot = none := by
        obtain ⟨u, hu'⟩ : ∃ u, css.flatten[0]? = some u := by
          cases hz : css.flatten with
          | nil => exact absurd hz hpos
          | cons z zs => exact ⟨z, rfl⟩
        have := World.cell?_spot (each 0 u hu')
        simpa [Addr.add] using this
      refine ⟨.inr hsp, fun j' u hj => ?_⟩
      have hadd : x.add j' = ⟨x.block, x.off + j', none⟩ := by obtain ⟨b, o, zz⟩ := x; simp only at hsp; subst hsp; unfold Addr.add; split <;> simp_all
      rw [← hadd]; exact each j' u hj
/-- of structs of two whole numbers -/
theorem arg_pairs {k1 k2 : IntKind} {f0 f1 : Field} {a : Option Addr} {len cap : Nat} {d : DataW H} {p : List MemPlace} (hu : P.underlying t = some (.slice e)) (he : P.underlying e = some (.struct #[f0, f1])) (hc : P.cellsOf e = 2)
    (h1 : P.underlying f0.type = some (.int k1)) (h2 : P.underlying f1.type = some (.int k2)) (c1 : P.cellsOf f0.type = 1) (c2 : P.cellsOf f1.type = 1) (o1 : f0.offset = 0) (o2 : f1.offset = 1)
    (h : DataW.Trod enc P W 0 (fun _ => true) true t (.slice a len cap) d p) (hsz : (DataW.weightsEach P ts ds).all (· ≤ reachBytes) = true) {j : Nat} (ht : ts[j]? = some t) (hd : ds[j]? = some d) :
    ∃ l : List (Int × Int), l.length = len ∧ Rd W 2 (.slice a len cap) l.length (l.flatMap fun x => [.int k1 x.1, .int k2 x.2]) ∧ (∀ x ∈ l, (Lit.int k1 x.1).wf = true ∧ (Lit.int k2 x.2).wf = true) ∧ l.length * P.bytesOf e ≤ 140737488351232 ∧ l.length ≤ 9223372036854775807 ∧ (d = .nil ∧ len = 0 ∨ ∃ els sp, d = .slice els sp ∧ els.length = len) := by
  obtain ⟨css, els, sp, n, hl, hel, hk, hrd, hb, hm, hdd, hat⟩ := arg_slice hu hc (by decide) h hsz ht hd
  have each : ∀ c ∈ css, ∃ x : Int × Int, c = [.int k1 x.1, .int k2 x.2] ∧ (Lit.int k1 x.1).wf = true ∧ (Lit.int k2 x.2).wf = true := by
    intro c hc'
    obtain ⟨i, hi⟩ := List.getElem?_of_mem hc'
    obtain ⟨y, q, _, ht'⟩ := hat i c hi
    have hcl := hk c hc'
    obtain ⟨y0, y1, m, _, _, t0, t1⟩ := trod_struct2 he ht'
    match c, hcl with
    | [u0, u1], _ =>
      rw [o1, c1] at t0
      rw [o2, c2] at t1
      obtain ⟨n0, e0, _, w0⟩ := DataW.trod_int h1 t0
      obtain ⟨n1, e1, _, w1⟩ := DataW.trod_int h2 t1
      simp at e0 e1
      subst e0; subst e1
      exact ⟨(n0, n1), rfl, w0, w1⟩
  have hll : ∃ l : List (Int × Int), css = l.map (fun x => [.int k1 x.1, .int k2 x.2]) ∧ ∀ x ∈ l, (Lit.int k1 x.1).wf = true ∧ (Lit.int k2 x.2).wf = true := by
    clear hrd hb hm hdd hat hk hl hel
    induction css with
    | nil => exact ⟨[], rfl, by simp⟩
    | cons c css ih =>
      obtain ⟨x, hx, hw⟩ := each c (List.mem_cons_self ..)
      obtain ⟨l, hl, hw2⟩ := ih (fun c hc => each c (List.mem_cons_of_mem _ hc))
      exact ⟨x :: l, by rw [hx, hl]; rfl, by
        intro z hz
        rcases List.mem_cons.1 hz with rfl | hz
        · exact hw
        · exact hw2 z hz⟩
  obtain ⟨l, rfl, hw⟩ := hll
  have hlen : l.length = len := by simpa using hl
  refine ⟨l, hlen, ?_, hw, by simpa using hb, by simpa using hm, ?_⟩
  · rw [List.length_map] at hrd
    rw [List.flatMap_def]; exact hrd
  · rcases hdd with z | z
    · exact .inl z
    · exact .inr ⟨els, sp, z, hel⟩
end
end Go.Gw
