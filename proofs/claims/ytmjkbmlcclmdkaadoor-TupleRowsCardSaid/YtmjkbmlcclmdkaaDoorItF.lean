/-
  A slice of items (structs of two numbers and a text) and a slice of texts, as a row tells of them. No condition beyond those that each theorem names.
-/
import Derived.Test.YtmjkbmlcclmdkaaDoorFrameS
import Derived.Test.YtmjkbmlcclmdkaaDoorRec
import Derived.Test.YtmjkbmlcclmdkaaDoorDoorQ
namespace Go.Gw
set_option linter.unusedVariables false
set_option linter.unusedSimpArgs false
open Go.ChangeShapes Go.WideShapes Go.ChangeAt Go.RowKit Go.DoorP
section
variable {H : Type} {enc : TypeId × Value → H} {P : Program} {W : World} {t e : TypeId} {ts : List TypeId} {ds : List (DataW H)}
theorem trod_struct3 {f0 f1 f2 : Field} {fuel : Nat} {cs : List Value} {x : DataW H × List MemPlace} {base : Nat} {sp : Nat → Bool} {held : Bool} (ht : P.underlying t = some (.struct #[f0, f1, f2])) (h : DataW.trod enc P W base sp held fuel t cs = some x) :
    ∃ y0 y1 y2 n, x.1 = .agg [y0.1, y1.1, y2.1] ∧ DataW.trod enc P W base sp held n f0.type ((cs.drop f0.offset).take (P.cellsOf f0.type)) = some y0 ∧
      DataW.trod enc P W base sp held n f1.type ((cs.drop f1.offset).take (P.cellsOf f1.type)) = some y1 ∧ DataW.trod enc P W base sp held n f2.type ((cs.drop f2.offset).take (P.cellsOf f2.type)) = some y2 := by
  obtain ⟨xs, n, _, rfl, hl, hlen, hf⟩ := DataW.trod_struct ht h
  match xs, hlen with
  | [y0, y1, y2], _ => exact ⟨y0, y1, y2, n, by simp, by simpa using hf 0 f0 rfl, by simpa using hf 1 f1 rfl, by simpa using hf 2 f2 rfl⟩
theorem weights_el {els sp : List (DataW H)} {d y : DataW H} {i j : Nat} (hu : P.underlying t = some (.slice e)) (hds : d = .slice els sp) (hy : els[i]? = some y) (hsz : (DataW.weightsEach P ts ds).all (· ≤ reachBytes) = true) (ht : ts[j]? = some t) (hd : ds[j]? = some d) :
    ∀ z ∈ y.weights P e, z ≤ reachBytes := by
  intro z hz
  have mem : ∀ {els : List (DataW H)} {i : Nat}, els[i]? = some y → z ∈ DataW.weightsAll P e els := by
    intro els
    induction els with
    | nil => intro i h; simp at h
    | cons x r ih =>
      intro i h
      unfold DataW.weightsAll
      cases i with
      | zero => simp at h; subst h; exact List.mem_append_left _ hz
      | succ i => exact List.mem_append_right _ (ih (by simpa using h))
  have h3 : z ∈ d.weights P t := by
    rw [hds]
    simp only [DataW.weights, hu]
    exact List.mem_cons_of_mem _ (List.mem_append_left _ (mem hy))
  simpa using List.all_eq_true.1 hsz z (DataW.weights_mem_each ht hd z h3)
theorem arg_items {f0 f1 f2 : Field} {a : Option Addr} {len cap : Nat} {d : DataW H} {p : List MemPlace} (hu : P.underlying t = some (.slice e)) (he : P.underlying e = some (.struct #[f0, f1, f2])) (hc : P.cellsOf e = 3)
    (h0 : P.underlying f0.type = some (.int .u8)) (h1 : P.underlying f1.type = some (.int .i64)) (h2 : P.underlying f2.type = some .string) (c0 : P.cellsOf f0.type = 1) (c1 : P.cellsOf f1.type = 1) (c2 : P.cellsOf f2.type = 1) (o0 : f0.offset = 0) (o1 : f1.offset = 1) (o2 : f2.offset = 2)
    (h : DataW.Trod enc P W 0 (fun _ => true) true t (.slice a len cap) d p) (hsz : (DataW.weightsEach P ts ds).all (· ≤ reachBytes) = true) {j : Nat} (ht : ts[j]? = some t) (hd : ds[j]? = some d) :
    ∃ l : List It, Rd W 3 (.slice a len cap) l.length (recs itC l) ∧ (∀ j, GoodIt (l.getD j itz)) ∧ l.length * P.bytesOf e ≤ 140737488351232 ∧ l.length ≤ 9223372036854775807 := by
  obtain ⟨css, els, sp, n, hl, hel, hk, hrd, hb, hm, hdd, hat⟩ := arg_slice hu hc (by decide) h hsz ht hd
  have each : ∀ c ∈ css, ∃ q : It, c = itC q ∧ GoodIt q := by
    intro c hc'
    obtain ⟨i, hi⟩ := List.getElem?_of_mem hc'
    obtain ⟨y, q, hy, ht'⟩ := hat i c hi
    obtain ⟨y0, y1, y2, m, hyy, t0, t1, t2⟩ := trod_struct3 he ht'
    have hcl := hk c hc'
    match c, hcl with
    | [u0, u1, u2], _ =>
      rw [o0, c0] at t0
      rw [o1, c1] at t1
      rw [o2, c2] at t2
      obtain ⟨n0, e0, _, w0⟩ := DataW.trod_int h0 t0
      obtain ⟨n1, e1, _, w1⟩ := DataW.trod_int h1 t1
      obtain ⟨s, e2, g2, _⟩ := DataW.trod_string h2 t2
      simp at e0 e1 e2
      subst e0; subst e1; subst e2
      refine ⟨⟨n0, n1, s.data.toList⟩, ?_, ?_⟩
      · show [Value.int .u8 n0, .int .i64 n1, .string s] = [.int .u8 n0, .int .i64 n1, .string (sb s.data.toList)]
        rw [sb_of]
      · have b0 : 0 ≤ n0 ∧ n0 ≤ 255 := bounds_u8 w0
        have b1 : Fit n1 := bounds_i64 w1
        refine ⟨b0, b1, ?_⟩
        have hyd : y = .agg [y0.1, y1.1, y2.1] := hyy
        rcases hdd with ⟨_, hl0⟩ | hds
        · have := (List.getElem?_eq_some_iff.1 hi).1; omega
        · have hws := weights_el hu hds hy hsz ht hd
          have hsz1 : (DataW.weightsEach P [f2.type] [y2.1]).all (· ≤ reachBytes) = true := by
            rw [List.all_eq_true]
            intro z hz
            have hz1 : z ∈ y2.1.weights P f2.type := by simpa [DataW.weightsEach] using hz
            have := hws z (by
              rw [hyd]
              simp only [DataW.weights, he]
              show z ∈ DataW.weightsEach P [f0.type, f1.type, f2.type] [y0.1, y1.1, y2.1]
              simp only [DataW.weightsEach, List.append_nil]
              exact List.mem_append_right _ (List.mem_append_right _ hz1))
            simpa using this
          have := arg_string (P := P) (ts := [f2.type]) (j := 0) (t := f2.type) (s := s) hsz1 rfl (by rw [g2]; rfl)
          show s.data.toList.length ≤ _
          omega
  have hll : ∃ l : List It, css = l.map itC ∧ ∀ x ∈ l, GoodIt x := by
    clear hrd hb hm hdd hat hk hl hel
    induction css with
    | nil => exact ⟨[], rfl, by simp⟩
    | cons c css ih =>
      obtain ⟨x, hx, hg⟩ := each c (List.mem_cons_self ..)
      obtain ⟨l, hl, hgl⟩ := ih (fun c hc => each c (List.mem_cons_of_mem _ hc))
      exact ⟨x :: l, by rw [hx, hl]; rfl, by
        intro z hz
        rcases List.mem_cons.1 hz with rfl | hz
        · exact hg
        · exact hgl z hz⟩
  obtain ⟨l, rfl, hg⟩ := hll
  refine ⟨l, ?_, fun j => ?_, by simpa using hb, by simpa using hm⟩
  · rw [List.length_map] at hrd
    unfold recs
    rw [List.flatMap_def]; exact hrd
  · rw [List.getD_eq_getElem?_getD]
    cases hj : l[j]? with
    | none => exact ⟨by decide, by decide, by decide⟩
    | some x => exact hg x (List.mem_of_getElem? hj)
theorem arg_strs {a : Option Addr} {len cap : Nat} {d : DataW H} {p : List MemPlace} (hu : P.underlying t = some (.slice e)) (he : P.underlying e = some .string) (hc : P.cellsOf e = 1)
    (h : DataW.Trod enc P W 0 (fun _ => true) true t (.slice a len cap) d p) (hsz : (DataW.weightsEach P ts ds).all (· ≤ reachBytes) = true) {j : Nat} (ht : ts[j]? = some t) (hd : ds[j]? = some d) :
    ∃ l : List (List UInt8), Rd W 1 (.slice a len cap) l.length (svals l) ∧ (∀ j, (l.getD j []).length ≤ 140737488351232) ∧ l.length * P.bytesOf e ≤ 140737488351232 ∧ l.length ≤ 9223372036854775807 := by
  obtain ⟨css, els, sp, n, hl, hel, hk, hrd, hb, hm, hdd, hat⟩ := arg_slice hu hc (by decide) h hsz ht hd
  have each : ∀ c ∈ css, ∃ s : List UInt8, c = [.string (sb s)] ∧ s.length ≤ 140737488351232 := by
    intro c hc'
    obtain ⟨i, hi⟩ := List.getElem?_of_mem hc'
    obtain ⟨y, q, hy, ht'⟩ := hat i c hi
    obtain ⟨s, e2, g2, _⟩ := DataW.trod_string he ht'
    refine ⟨s.data.toList, by rw [e2, sb_of], ?_⟩
    simp only [Prod.mk.injEq] at g2
    rcases hdd with ⟨_, hl0⟩ | hds
    · have := (List.getElem?_eq_some_iff.1 hi).1; omega
    · have hws := weights_el hu hds hy hsz ht hd
      have hsz1 : (DataW.weightsEach P [e] [y]).all (· ≤ reachBytes) = true := by
        rw [List.all_eq_true]
        intro z hz
        have := hws z (by simpa [DataW.weightsEach] using hz)
        simpa using this
      exact arg_string (P := P) (ts := [e]) (j := 0) (t := e) (s := s) hsz1 rfl (by rw [g2.1]; rfl)
  have hll : ∃ l : List (List UInt8), css = l.map (fun s => [.string (sb s)]) ∧ ∀ x ∈ l, x.length ≤ 140737488351232 := by
    clear hrd hb hm hdd hat hk hl hel
    induction css with
    | nil => exact ⟨[], rfl, by simp⟩
    | cons c css ih =>
      obtain ⟨x, hx, hg⟩ := each c (List.mem_cons_self ..)
      obtain ⟨l, hl, hgl⟩ := ih (fun c hc => each c (List.mem_cons_of_mem _ hc))
      exact ⟨x :: l, by rw [hx, hl]; rfl, by
        intro z hz
        rcases List.mem_cons.1 hz with rfl | hz
        · exact hg
        · exact hgl z hz⟩
  obtain ⟨l, rfl, hg⟩ := hll
  refine ⟨l, ?_, fun j => ?_, by simpa using hb, by simpa using hm⟩
  · rw [List.length_map] at hrd
    have e1 : (l.map fun s => [Value.string (sb s)]).flatten = svals l := by
      unfold svals
      clear hrd hb hm hdd hat hk hl hel each hg
      induction l with
      | nil => rfl
      | cons x l ih => simp [ih]
    rw [e1] at hrd
    exact hrd
  · rw [List.getD_eq_getElem?_getD]
    cases hj : l[j]? with
    | none => exact Nat.zero_le _
    | some x => exact hg x (List.mem_of_getElem? hj)
end
end Go.Gw
