/-
  A hit and a slice of hits (structs of a text and a number), as a row tells of them. No condition beyond those that each theorem names.
-/
import Derived.Test.YtbammppeneoffaaFrameS
import Derived.Test.YtbammppeneoffaaHitP
namespace Go.Gw
set_option linter.unusedVariables false
set_option linter.unusedSimpArgs false
open Go.ChangeShapes Go.WideShapes Go.ChangeAt Go.RowKit Go.HitP
section
variable {H : Type} {enc : TypeId × Value → H} {P : Program} {W : World} {t e : TypeId} {ts : List TypeId} {ds : List (DataW H)}
theorem hit_cells {f0 f1 : Field} {n : Nat} {cs : List Value} {x : DataW H × List MemPlace} (he : P.underlying e = some (.struct #[f0, f1])) (hk : cs.length = 2) (h1 : P.underlying f0.type = some .string) (h2 : P.underlying f1.type = some (.int .i64)) (c1 : P.cellsOf f0.type = 1) (c2 : P.cellsOf f1.type = 1) (o1 : f0.offset = 0) (o2 : f1.offset = 1)
    (h : DataW.trod enc P W 0 (fun _ => true) true n e cs = some x) : ∃ q : Hit, cs = hitC q ∧ x.2 = [] := by
  obtain ⟨y0, y1, m, hx, _, t0, t1⟩ := trod_struct2 he h
  match cs, hk with
  | [u0, u1], _ =>
    rw [o1, c1] at t0
    rw [o2, c2] at t1
    obtain ⟨s, e0, g0, _⟩ := DataW.trod_string h1 t0
    obtain ⟨n1, e1, g1, w1⟩ := DataW.trod_int h2 t1
    simp at e0 e1
    subst e0; subst e1
    refine ⟨⟨s.data.toList, n1⟩, ?_, ?_⟩
    · show [Value.string s, .int .i64 n1] = [.string (sb s.data.toList), .int .i64 n1]
      rw [sb_of]
    · rw [hx, g0, g1]; rfl
theorem arg_hits {f0 f1 : Field} {a : Option Addr} {len cap : Nat} {d : DataW H} {p : List MemPlace} (hu : P.underlying t = some (.slice e)) (he : P.underlying e = some (.struct #[f0, f1])) (hc : P.cellsOf e = 2)
    (h1 : P.underlying f0.type = some .string) (h2 : P.underlying f1.type = some (.int .i64)) (c1 : P.cellsOf f0.type = 1) (c2 : P.cellsOf f1.type = 1) (o1 : f0.offset = 0) (o2 : f1.offset = 1)
    (h : DataW.Trod enc P W 0 (fun _ => true) true t (.slice a len cap) d p) (hsz : (DataW.weightsEach P ts ds).all (· ≤ reachBytes) = true) {j : Nat} (ht : ts[j]? = some t) (hd : ds[j]? = some d) :
    ∃ l : List Hit, Rd W 2 (.slice a len cap) l.length (recs hitC l) ∧ l.length * P.bytesOf e ≤ 140737488351232 ∧ l.length ≤ 9223372036854775807 := by
  obtain ⟨css, els, sp, n, hl, hel, hk, hrd, hb, hm, hdd, hat⟩ := arg_slice hu hc (by decide) h hsz ht hd
  have each : ∀ c ∈ css, ∃ q : Hit, c = hitC q := by
    intro c hc'
    obtain ⟨i, hi⟩ := List.getElem?_of_mem hc'
    obtain ⟨y, q, _, ht'⟩ := hat i c hi
    obtain ⟨z, hz, _⟩ := hit_cells he (hk c hc') h1 h2 c1 c2 o1 o2 ht'
    exact ⟨z, hz⟩
  have hll : ∃ l : List Hit, css = l.map hitC := by
    clear hrd hb hm hdd hat hk hl hel
    induction css with
    | nil => exact ⟨[], rfl⟩
    | cons c css ih =>
      obtain ⟨x, hx⟩ := each c (List.mem_cons_self ..)
      obtain ⟨l, hl⟩ := ih (fun c hc => each c (List.mem_cons_of_mem _ hc))
      exact ⟨x :: l, by rw [hx, hl]; rfl⟩
  obtain ⟨l, rfl⟩ := hll
  refine ⟨l, ?_, by simpa using hb, by simpa using hm⟩
  rw [List.length_map] at hrd
  unfold recs
  rw [List.flatMap_def]; exact hrd
theorem open_hit {r : Reach} {b0 : Nat} {f0 f1 : Field} {v : Value} {d : DataW H} {p : List MemPlace} (he : P.underlying t = some (.struct #[f0, f1])) (hc : P.cellsOf t = 2)
    (h1 : P.underlying f0.type = some .string) (h2 : P.underlying f1.type = some (.int .i64)) (c1 : P.cellsOf f0.type = 1) (c2 : P.cellsOf f1.type = 1) (o1 : f0.offset = 0) (o2 : f1.offset = 1)
    (hval : Value.okWide P W r b0 t v) (h : DataW.Trod enc P W 0 (fun _ => true) true t v d p) : ∃ x : Hit, v = .agg #[.string (sb x.key), .int .i64 x.score] ∧ p = [] := by
  obtain ⟨cs, rfl, hsz⟩ := okWide_struct he hval
  obtain ⟨fuel, hf⟩ := h
  have hcs : (Value.agg cs).cells.toList = cs.toList := rfl
  rw [hcs] at hf
  obtain ⟨q, hq, hp⟩ := hit_cells he (by rw [Array.length_toList, hsz, hc]) h1 h2 c1 c2 o1 o2 hf
  exact ⟨q, by congr 1; apply Array.toList_inj.1; rw [hq]; rfl, hp⟩
end
end Go.Gw
