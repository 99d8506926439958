/-
  A query, as a row tells of it, however great. No condition beyond those that each theorem names.
-/
import Derived.Test.YtnhplkkbpmijdaaQryZ
namespace Go.Gw
set_option linter.unusedVariables false
set_option linter.unusedSimpArgs false
open Go.ChangeShapes Go.WideShapes Go.ChangeAt Go.RowKit Go.QryP Go.Proofs.Ytnhplkkbpmijdaa
section
variable {H : Type} {enc : TypeId × Value → H} {P : Program} {W : World} {t e : TypeId}
theorem kids_w : ∀ {css : List (List Value)}, (∀ c ∈ css, ∃ (z : QN) (q : Q), c = qnC z ∧ z.h = q.h ∧ RdQ W q z.parts) →
    ∃ (L : List QN) (l : List Q), css.flatten = recs qnC L ∧ L.length = css.length ∧ l.length = css.length ∧ (∀ j, j < l.length → (L.getD j qz).h = (l.getD j q0).h) ∧ (∀ j, j < l.length → RdQ W (l.getD j q0) (L.getD j qz).parts)
  | [], _ => ⟨[], [], rfl, rfl, rfl, fun j hj => absurd hj (Nat.not_lt_zero _), fun j hj => absurd hj (Nat.not_lt_zero _)⟩
  | c :: css, h => by
    obtain ⟨z, q, hz, hh, hr⟩ := h c (List.mem_cons_self ..)
    obtain ⟨L, l, h1, h2, h3, h4, h5⟩ := kids_w (css := css) fun c hc => h c (List.mem_cons_of_mem _ hc)
    refine ⟨z :: L, q :: l, by rw [List.flatten_cons, hz, h1]; rfl, by simp [h2], by simp [h3], fun j hj => ?_, fun j hj => ?_⟩
    · match j, hj with
      | 0, _ => exact hh
      | j + 1, hj => exact h4 j (by simpa using hj)
    · match j, hj with
      | 0, _ => exact hr
      | j + 1, hj => exact h5 j (by simpa using hj)
theorem query_cells_w (hT : QTy P e) : ∀ (fuel : Nat) (cs : List Value) (x : DataW H × List MemPlace), DataW.trod enc P W 0 (fun _ => true) true fuel e cs = some x →
    ∃ (z : QN) (q : Q), cs = qnC z ∧ z.h = q.h ∧ RdQ W q z.parts := by
  obtain ⟨f0, f1, f2, f3, f4, f5, f6, f7, he, hc, ⟨u0, u1, u2, u3, u4, u5, u6, u7⟩, ⟨c0, c1, c2, c3, c4, c5, c6, c7⟩, ⟨o0, o1, o2, o3, o4, o5, o6, o7⟩⟩ := hT
  intro fuel
  induction fuel using Nat.strongRecOn with
  | _ fuel ih =>
    intro cs x h
    obtain ⟨xs, n, rfl, rfl, hcl, hxl, hat⟩ := DataW.trod_struct he h
    rw [hc] at hcl
    match cs, hcl with
    | [v0, v1, v2, v3, v4, v5, v6, v7], _ =>
      match xs, hxl with
      | [x0, x1, x2, x3, x4, x5, x6, x7], _ =>
        have t0 := hat 0 f0 rfl
        have t1 := hat 1 f1 rfl
        have t2 := hat 2 f2 rfl
        have t3 := hat 3 f3 rfl
        have t4 := hat 4 f4 rfl
        have t5 := hat 5 f5 rfl
        have t6 := hat 6 f6 rfl
        have t7 := hat 7 f7 rfl
        rw [o0, c0] at t0; rw [o1, c1] at t1; rw [o2, c2] at t2; rw [o3, c3] at t3; rw [o4, c4] at t4; rw [o5, c5] at t5; rw [o6, c6] at t6; rw [o7, c7] at t7
        obtain ⟨n0, e0, g0, _⟩ := DataW.trod_int u0 t0
        obtain ⟨n1, e1, g1, _⟩ := DataW.trod_string u1 t1
        obtain ⟨n2, e2, g2, _⟩ := DataW.trod_string u2 t2
        obtain ⟨n3, e3, g3, _⟩ := DataW.trod_int u3 t3
        obtain ⟨n4, e4, g4, _⟩ := DataW.trod_int u4 t4
        obtain ⟨n5, e5, g5, _⟩ := DataW.trod_int u5 t5
        obtain ⟨n6, e6, g6, _⟩ := DataW.trod_int u6 t6
        obtain ⟨v, css, els, sp, m, e7, hel, hk, hrd, hdd, hea⟩ := slice_rd u7 hc (by decide) t7
        simp at e0 e1 e2 e3 e4 e5 e6 e7
        subst e0; subst e1; subst e2; subst e3; subst e4; subst e5; subst e6; subst e7
        obtain ⟨L, l, h1, h2, h3, h4, h5⟩ := kids_w (W := W) (css := css) fun c hc' => by
          obtain ⟨i, hi⟩ := List.getElem?_of_mem hc'
          obtain ⟨hm, y, q, hy, ht⟩ := hea i c hi
          exact ih m (by omega) c _ ht
        refine ⟨⟨⟨n0, n1.data.toList, n2.data.toList, n3, n4, n5, n6⟩, v7⟩, .mk ⟨n0, n1.data.toList, n2.data.toList, n3, n4, n5, n6⟩ l, ?_, rfl, .mk _ _ _ L (by rw [← h1, h2]; exact hrd) (h2.trans h3.symm) h4 h5⟩
        show _ = [.int .i64 n0, .string (sb n1.data.toList), .string (sb n2.data.toList), .int .i64 n3, .int .i64 n4, .int .u64 n5, .int .u64 n6, v7]
        rw [sb_of, sb_of]
theorem open_query_w {r : Reach} {b0 : Nat} {v : Value} {d : DataW H} {p : List MemPlace} (hT : QTy P e) (hval : Value.okWide P W r b0 e v) (h : DataW.Trod enc P W 0 (fun _ => true) true e v d p) :
    ∃ (z : QN) (q : Q), v = .agg #[.int .i64 z.h.op, .string (sb z.h.field), .string (sb z.h.text), .int .i64 z.h.edits, .int .i64 z.h.exact, .int .u64 z.h.lo, .int .u64 z.h.hi, z.parts] ∧ z.h = q.h ∧ RdQ W q z.parts := by
  obtain ⟨f0, f1, f2, f3, f4, f5, f6, f7, he, hrest⟩ := hT
  obtain ⟨cs, rfl, hsz⟩ := okWide_struct he hval
  obtain ⟨fuel, hf⟩ := h
  obtain ⟨z, q, h1, h2, h3⟩ := query_cells_w ⟨f0, f1, f2, f3, f4, f5, f6, f7, he, hrest⟩ fuel _ _ hf
  refine ⟨z, q, ?_, h2, h3⟩
  have hcs : (Value.agg cs).cells.toList = cs.toList := rfl
  rw [hcs] at h1
  congr 1; apply Array.toList_inj.1; rw [h1]; rfl
end
end Go.Gw
