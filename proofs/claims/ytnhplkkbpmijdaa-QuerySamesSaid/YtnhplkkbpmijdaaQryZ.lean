/-
  A query, as a row tells of it: the struct's eight cells, the last a slice of such structs. No condition beyond those that each theorem names.
-/
import Derived.Test.YtnhplkkbpmijdaaRows
import Derived.Test.YtnhplkkbpmijdaaFrameS
import Derived.Test.YtnhplkkbpmijdaaQryP
namespace Go.Gw
set_option linter.unusedVariables false
set_option linter.unusedSimpArgs false
open Go.ChangeShapes Go.WideShapes Go.ChangeAt Go.RowKit Go.QryP Go.Proofs.Ytnhplkkbpmijdaa
section
variable {H : Type} {enc : TypeId × Value → H} {P : Program} {W : World} {t e : TypeId}
/-- a slice whose elements are k cells each, of whatever weight: the cells of each, and each one's reading -/
theorem slice_rd {k fuel : Nat} {cs : List Value} {x : DataW H × List MemPlace} (hu : P.underlying t = some (.slice e)) (hc : P.cellsOf e = k) (h0 : 0 < k)
    (h : DataW.trod enc P W 0 (fun _ => true) true fuel t cs = some x) :
    ∃ (v : Value) (css : List (List Value)) (els sp : List (DataW H)) (n : Nat), cs = [v] ∧ els.length = css.length ∧ (∀ c ∈ css, c.length = k) ∧ Rd W k v css.length css.flatten ∧
      (x.1 = .nil ∧ css = [] ∨ x.1 = .slice els sp) ∧ ∀ (i : Nat) (c : List Value), css[i]? = some c → n < fuel ∧ ∃ y q, els[i]? = some y ∧ DataW.trod enc P W 0 (fun _ => true) true n e c = some (y, q) := by
  rcases DataW.trod_slice hu h with ⟨hcs, hx⟩ | ⟨x', len, cap, elems, rest, n, hfu, hcs, hx, _, hl, hm, hlen, hel, _⟩
  · subst hcs
    exact ⟨_, [], [], [], 0, rfl, rfl, by simp, by simpa using Rd.nil W k, .inl ⟨by rw [hx], rfl⟩, by simp⟩
  · subst hcs
    rw [hc] at hel
    have hex : ∀ i, i < len → ∃ cs, W.cells? 0 (x'.add (i * k)) k = some cs ∧ ∃ y q, (elems.map (·.1))[i]? = some y ∧ DataW.trod enc P W 0 (fun _ => true) true n e cs = some (y, q) := by
      intro i hi
      have hE := hel i hi
      rw [List.getElem?_eq_getElem (by omega), Option.bind_eq_some_iff] at hE
      obtain ⟨cs, h1, h2⟩ := hE
      exact ⟨cs, h1, elems[i].1, elems[i].2, by rw [List.getElem?_map, List.getElem?_eq_getElem (by omega)]; rfl, h2⟩
    obtain ⟨css, hl1, hat⟩ : ∃ css : List (List Value), css.length = len ∧ ∀ i c, css[i]? = some c → W.cells? 0 (x'.add (i * k)) k = some c ∧ ∃ y q, (elems.map (·.1))[i]? = some y ∧ DataW.trod enc P W 0 (fun _ => true) true n e c = some (y, q) := by
      refine ⟨(List.range len).map fun i => (W.cells? 0 (x'.add (i * k)) k).getD [], by simp, fun i c hi => ?_⟩
      have hi2 : i < len := by
        have := (List.getElem?_eq_some_iff.1 hi).1
        simpa using this
      obtain ⟨cs, h1, h2⟩ := hex i hi2
      have : c = cs := by
        simp [List.getElem?_map, List.getElem?_range hi2, h1] at hi
        exact hi.symm
      subst this
      exact ⟨h1, h2⟩
    have hk : ∀ c ∈ css, c.length = k := by
      intro c hc'
      obtain ⟨i, hi⟩ := List.getElem?_of_mem hc'
      exact (cells_at (hat i c hi).1).1
    obtain ⟨f1, f2⟩ := flat_at hk h0
    refine ⟨_, css, elems.map (·.1), rest.map (·.1), n, rfl, by simp [hlen, hl1], hk, ?_, .inr (by rw [hx]), fun i c hi => ⟨by omega, (hat i c hi).2⟩⟩
    refine ⟨f1, some x', cap, by rw [hl1], by omega, hm, (fun z => by cases z), fun ad z => ?_⟩
    simp only [Option.some.injEq] at z
    subst z
    have each : ∀ j' u, css.flatten[j']? = some u → W.cell? (x'.add j') = some u := by
      intro j' u hj
      obtain ⟨c, h1, h2⟩ := f2 j' u hj
      have h3 := (cells_at (hat _ c h1).1).2 _ u h2
      have e1 : (x'.add (j' / k * k)).add (j' % k) = x'.add j' := by
        have e2 : j' / k * k + j' % k = j' := by rw [Nat.mul_comm]; exact Nat.div_add_mod j' k
        rw [Addr.add_add, e2]
      rwa [e1] at h3
    by_cases hpos : css.flatten = []
    · exact ⟨.inl hpos, fun j' u hj => by rw [hpos] at hj; simp at hj⟩
    · have hsp : x'.spot = none := by
        obtain ⟨u, hu'⟩ : ∃ u, css.flatten[0]? = some u := by
          cases hz : css.flatten with
          | nil => exact absurd hz hpos
          | cons z zs => exact ⟨z, rfl⟩
        have := World.cell?_spot (each 0 u hu')
        simpa [Addr.add] using this
      refine ⟨.inr hsp, fun j' u hj => ?_⟩
      have hadd : x'.add j' = ⟨x'.block, x'.off + j', none⟩ := by obtain ⟨b, o, zz⟩ := x'; simp only at hsp; subst hsp; unfold Addr.add; split <;> simp_all
      rw [← hadd]; exact each j' u hj
/-- the type of queries -/
def QTy (P : Program) (e : TypeId) : Prop := ∃ f0 f1 f2 f3 f4 f5 f6 f7 : Field, P.underlying e = some (.struct #[f0, f1, f2, f3, f4, f5, f6, f7]) ∧ P.cellsOf e = 8 ∧
  (P.underlying f0.type = some (.int .i64) ∧ P.underlying f1.type = some .string ∧ P.underlying f2.type = some .string ∧ P.underlying f3.type = some (.int .i64) ∧ P.underlying f4.type = some (.int .i64) ∧ P.underlying f5.type = some (.int .u64) ∧ P.underlying f6.type = some (.int .u64) ∧ P.underlying f7.type = some (.slice e)) ∧
  (P.cellsOf f0.type = 1 ∧ P.cellsOf f1.type = 1 ∧ P.cellsOf f2.type = 1 ∧ P.cellsOf f3.type = 1 ∧ P.cellsOf f4.type = 1 ∧ P.cellsOf f5.type = 1 ∧ P.cellsOf f6.type = 1 ∧ P.cellsOf f7.type = 1) ∧
  (f0.offset = 0 ∧ f1.offset = 1 ∧ f2.offset = 2 ∧ f3.offset = 3 ∧ f4.offset = 4 ∧ f5.offset = 5 ∧ f6.offset = 6 ∧ f7.offset = 7)
theorem kids_of {els : List (DataW H)} : ∀ {css : List (List Value)}, els.length = css.length → (∀ (i : Nat) (c : List Value), css[i]? = some c → ∃ y, els[i]? = some y ∧ ∃ (z : QN) (q : Q), c = qnC z ∧ z.h = q.h ∧ RdQ W q z.parts ∧ bulkQ q ≤ Rows.uptoBulk y) →
    ∃ (L : List QN) (l : List Q), css.flatten = recs qnC L ∧ L.length = css.length ∧ l.length = css.length ∧ (∀ j, j < l.length → (L.getD j qz).h = (l.getD j q0).h) ∧ (∀ j, j < l.length → RdQ W (l.getD j q0) (L.getD j qz).parts) ∧ bulkL l ≤ Rows.uptoBulkAll els := by
  induction els with
  | nil =>
    intro css hl h
    obtain rfl : css = [] := List.length_eq_zero_iff.1 hl.symm
    exact ⟨[], [], rfl, rfl, rfl, fun j hj => absurd hj (Nat.not_lt_zero _), fun j hj => absurd hj (Nat.not_lt_zero _), Nat.le_refl _⟩
  | cons d els ih =>
    intro css hl h
    match css, hl with
    | c :: css, hl =>
      obtain ⟨y, hy, z, q, hz, hh, hr, hb⟩ := h 0 c rfl
      obtain rfl : d = y := by simpa using hy
      obtain ⟨L, l, h1, h2, h3, h4, h5, h6⟩ := ih (css := css) (by simpa using hl) fun i c hi => by simpa using h (i + 1) c (by simpa using hi)
      refine ⟨z :: L, q :: l, by rw [List.flatten_cons, hz, h1]; rfl, by simp [h2], by simp [h3], fun j hj => ?_, fun j hj => ?_, ?_⟩
      · match j, hj with
        | 0, _ => exact hh
        | j + 1, hj => exact h4 j (by simpa using hj)
      · match j, hj with
        | 0, _ => exact hr
        | j + 1, hj => exact h5 j (by simpa using hj)
      · have e1 : bulkL (q :: l) = bulkQ q + bulkL l := by rw [bulkL]
        rw [e1]; simp only [Rows.uptoBulkAll]; omega
theorem query_cells (hT : QTy P e) : ∀ (fuel : Nat) (cs : List Value) (x : DataW H × List MemPlace), DataW.trod enc P W 0 (fun _ => true) true fuel e cs = some x →
    ∃ (z : QN) (q : Q), cs = qnC z ∧ z.h = q.h ∧ RdQ W q z.parts ∧ bulkQ q + 8 ≤ Rows.uptoBulk x.1 := by
  obtain ⟨f0, f1, f2, f3, f4, f5, f6, f7, he, hc, ⟨u0, u1, u2, u3, u4, u5, u6, u7⟩, ⟨c0, c1, c2, c3, c4, c5, c6, c7⟩, ⟨o0, o1, o2, o3, o4, o5, o6, o7⟩⟩ := hT
  intro fuel
  induction fuel using Nat.strongRecOn with
  | _ fuel ih =>
    intro cs x h
    obtain ⟨xs, n, rfl, rfl, hcl, hxl, hat⟩ := DataW.trod_struct he h
    rw [hc] at hcl
    match cs, hcl with
    | [v0, v1, v2, v3, v4, v5, v6, v7], _ =>
      match xs, hxl with
      | [x0, x1, x2, x3, x4, x5, x6, x7], _ =>
        have t0 := hat 0 f0 rfl
        have t1 := hat 1 f1 rfl
        have t2 := hat 2 f2 rfl
        have t3 := hat 3 f3 rfl
        have t4 := hat 4 f4 rfl
        have t5 := hat 5 f5 rfl
        have t6 := hat 6 f6 rfl
        have t7 := hat 7 f7 rfl
        rw [o0, c0] at t0; rw [o1, c1] at t1; rw [o2, c2] at t2; rw [o3, c3] at t3; rw [o4, c4] at t4; rw [o5, c5] at t5; rw [o6, c6] at t6; rw [o7, c7] at t7
        obtain ⟨n0, e0, g0, _⟩ := DataW.trod_int u0 t0
        obtain ⟨n1, e1, g1, _⟩ := DataW.trod_string u1 t1
        obtain ⟨n2, e2, g2, _⟩ := DataW.trod_string u2 t2
        obtain ⟨n3, e3, g3, _⟩ := DataW.trod_int u3 t3
        obtain ⟨n4, e4, g4, _⟩ := DataW.trod_int u4 t4
        obtain ⟨n5, e5, g5, _⟩ := DataW.trod_int u5 t5
        obtain ⟨n6, e6, g6, _⟩ := DataW.trod_int u6 t6
        obtain ⟨v, css, els, sp, m, e7, hel, hk, hrd, hdd, hea⟩ := slice_rd u7 hc (by decide) t7
        simp at e0 e1 e2 e3 e4 e5 e6 e7
        subst e0; subst e1; subst e2; subst e3; subst e4; subst e5; subst e6; subst e7
        obtain ⟨L, l, h1, h2, h3, h4, h5, h6⟩ := kids_of (W := W) (els := els) hel fun i c hi => by
          obtain ⟨hm, y, q, hy, ht⟩ := hea i c hi
          obtain ⟨z, q', a1, a2, a3, a4⟩ := ih m (by omega) c _ ht
          exact ⟨y, hy, z, q', a1, a2, a3, Nat.le_trans (Nat.le_add_right _ 8) a4⟩
        refine ⟨⟨⟨n0, n1.data.toList, n2.data.toList, n3, n4, n5, n6⟩, v7⟩, .mk ⟨n0, n1.data.toList, n2.data.toList, n3, n4, n5, n6⟩ l, ?_, rfl, .mk _ _ _ L (by rw [← h1, h2]; exact hrd) (h2.trans h3.symm) h4 h5, ?_⟩
        · show _ = [.int .i64 n0, .string (sb n1.data.toList), .string (sb n2.data.toList), .int .i64 n3, .int .i64 n4, .int .u64 n5, .int .u64 n6, v7]
          rw [sb_of, sb_of]
        · rw [bulkQ_mk, g0, g1, g2, g3, g4, g5, g6]
          have h7 : bulkL l + 1 ≤ Rows.uptoBulk x7.1 := by
            rcases hdd with ⟨q1, q2⟩ | q1
            · subst q2
              obtain rfl : l = [] := List.length_eq_zero_iff.1 h3
              rw [q1]; simp [Rows.uptoBulk, bulkL]
            · rw [q1]; simp only [Rows.uptoBulk]; omega
          simp only [List.map_cons, List.map_nil, Rows.uptoBulk, Rows.uptoBulkAll]
          omega
theorem open_query {r : Reach} {b0 : Nat} {v : Value} {d : DataW H} {p : List MemPlace} (hT : QTy P e) (hval : Value.okWide P W r b0 e v) (h : DataW.Trod enc P W 0 (fun _ => true) true e v d p) :
    ∃ (z : QN) (q : Q), v = .agg #[.int .i64 z.h.op, .string (sb z.h.field), .string (sb z.h.text), .int .i64 z.h.edits, .int .i64 z.h.exact, .int .u64 z.h.lo, .int .u64 z.h.hi, z.parts] ∧ z.h = q.h ∧ RdQ W q z.parts ∧ bulkQ q + 8 ≤ Rows.uptoBulk d := by
  obtain ⟨f0, f1, f2, f3, f4, f5, f6, f7, he, hrest⟩ := hT
  obtain ⟨cs, rfl, hsz⟩ := okWide_struct he hval
  obtain ⟨fuel, hf⟩ := h
  obtain ⟨z, q, h1, h2, h3, h4⟩ := query_cells ⟨f0, f1, f2, f3, f4, f5, f6, f7, he, hrest⟩ fuel _ _ hf
  refine ⟨z, q, ?_, h2, h3, h4⟩
  have hcs : (Value.agg cs).cells.toList = cs.toList := rfl
  rw [hcs] at h1
  congr 1; apply Array.toList_inj.1; rw [h1]; rfl
end
end Go.Gw
