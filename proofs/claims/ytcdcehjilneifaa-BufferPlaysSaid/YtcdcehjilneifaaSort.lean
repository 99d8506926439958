/-
  slices.SortFunc over a row of the call's own, under a comparison that only lays variables. No condition beyond those that each theorem names.
-/
import Derived.Shelf.SlSortCmp.NoneTotal
import Derived.Test.YtcdcehjilneifaaRec
import Derived.Test.YtcdcehjilneifaaObj
namespace Go.Gw
set_option linter.unusedVariables false
set_option linter.unusedSimpArgs false
set_option linter.unusedSectionVars false
open Go.Proofs Go.Shelf
/-- an append of a slice of another name -/
theorem append_ty {P : Program} {t t2 e e2 : TypeId} (h1 : P.underlying t = some (.slice e)) (h2 : P.underlying t2 = some (.slice e2)) (ty : TypeId) (v x : Value) (w : World) : (Builtin.append_ #[t, t2] ty #[v, x]).run P w = (Builtin.append_ #[t, t] ty #[v, x]).run P w := by
  unfold Builtin.append_
  cases v <;> simp [run_underlying h1, run_underlying h2]
/-- draws on, new blocks behind -/
def Grew (w w' : World) : Prop := ∃ q os, w' = Sort.grow (w.drewN q) os
theorem Grew.refl (w : World) : Grew w w := ⟨0, #[], by simp [Sort.grow, World.drewN]⟩
theorem Grew.trans {a b c : World} (h : Grew a b) (k : Grew b c) : Grew a c := by
  obtain ⟨q, os, rfl⟩ := h
  obtain ⟨q2, os2, rfl⟩ := k
  exact ⟨q + q2, os ++ os2, by simp [Sort.grow, World.drewN, Nat.add_assoc]⟩
theorem box_grown {P : Program} {T : TypeId} {u p : Value} {w w1 : World} (h : (Instr.box T u).run P w = .ok p w1) : Grew w w1 := by
  simp only [Instr.box, newVar, newRow] at h
  simp at h
  obtain ⟨_, rfl⟩ := h
  refine ⟨0, #[.cells u.cells T], ?_⟩
  rw [Sort.alloc_eq_grow]; rfl
section
variable {α : Type} [Inhabited α] {enc : α → List Value} {k : Nat}
theorem flat_recs (hk : ∀ x, (enc x).length = k) (l : List α) : (Sort.flatK enc k l.toArray).toList = recs enc l := by
  have hl := recs_len hk (l := l)
  apply List.ext_getElem (by simp [hl])
  intro t h1 h2
  rw [hl] at h2
  have k0 : 0 < k := by rcases Nat.eq_zero_or_pos k with e | e; subst e; simp at h2; exact e
  have hj : t / k < l.length := by rw [Nat.div_lt_iff_lt_mul k0]; exact h2
  have hi : t % k < (enc (l.getD (t / k) default)).length := by rw [hk]; exact Nat.mod_lt _ k0
  have h3 := recs_at hk (l := l) (j := t / k) (i := t % k) default hj (List.getElem?_eq_getElem hi)
  rw [Nat.div_add_mod' t k] at h3
  have h4 := (List.getElem?_eq_some_iff.1 h3).2
  rw [h4]
  simp only [Sort.flatK, Array.toList_map, List.getElem_map, Array.toList_range, List.getElem_range]
  have e : l.toArray[t / k]! = l.getD (t / k) default := by
    rw [getElem!_pos l.toArray (t / k) (by simpa using hj), List.getD_eq_getElem?_getD, List.getElem?_eq_getElem hj]; rfl
  rw [e, getElem!_pos (enc (l.getD (t / k) default)) (t % k) hi]
variable {w : World} {E : TypeId} {n g cap : Nat} {l : List α}
theorem own_holds (hk : ∀ x, (enc x).length = k) (h : w.ownsRow 0 E k (.slice (some ⟨g, 0, none⟩) n cap) n (recs enc l)) : Sort.HoldsK enc k w g 0 l.toArray ∧ g < w.heap.size := by
  have hfl := flat_recs hk l
  rcases h.2 with ⟨e, _⟩ | ⟨g', cap', cur, e, _, hg, hn, hcm, hsz, ht⟩
  · cases e
  · simp only [Value.slice.injEq, Option.some.injEq, Addr.mk.injEq, and_true] at e
    obtain ⟨rfl, _, rfl⟩ := e
    refine ⟨fun j hj => ?_, (Array.getElem?_eq_some_iff.1 hg).1⟩
    have hx : (recs enc l)[j]? = some (id (Sort.flatK enc k l.toArray)[j]!) := by
      rw [← hfl, Array.getElem?_toList, Array.getElem?_eq_getElem hj, getElem!_pos (Sort.flatK enc k l.toArray) j hj]; rfl
    have hc : cur[j]? = some (id (Sort.flatK enc k l.toArray)[j]!) := by
      rw [← ht, List.getElem?_take] at hx
      split at hx
      · rwa [Array.getElem?_toList] at hx
      · cases hx
    refine ⟨by simp [World.cell?, hg, hc], by simp [World.frozen?, hg]⟩
theorem own_put (h : w.ownsRow 0 E k (.slice (some ⟨g, 0, none⟩) n cap) n (recs enc l)) {F : Array Value} (hF : F.size = n * k) (m : Nat) (os : Array Obj) :
    (Sort.grow (Sort.putRow id (Sort.ahead w m) g 0 F) os).ownsRow 0 E k (.slice (some ⟨g, 0, none⟩) n cap) n F.toList ∧ w.grownBy (Sort.grow (Sort.putRow id (Sort.ahead w m) g 0 F) os) (some g) := by
  rcases h.2 with ⟨e, _⟩ | ⟨g', cap', cur, e, _, hg, hn, hcm, hsz, ht⟩
  · cases e
  · simp only [Value.slice.injEq, Option.some.injEq, Addr.mk.injEq, and_true] at e
    obtain ⟨rfl, _, rfl⟩ := e
    have hgl : g < w.heap.size := (Array.getElem?_eq_some_iff.1 hg).1
    have hnk : n * k ≤ cap * k := Nat.mul_le_mul_right k hn
    have hb : (Sort.grow (Sort.putRow id (Sort.ahead w m) g 0 F) os).heap[g]? = some (.cells (Sort.putCells id 0 F cur) E (0, 0)) := by
      simp only [Sort.grow, Sort.putRow, Sort.mapBlock, Sort.ahead]
      rw [Array.getElem?_append_left (by simpa using hgl), Array.getElem?_modify, if_pos rfl, hg]; rfl
    refine ⟨⟨by simpa using hF, .inr ⟨g, cap, _, rfl, Nat.zero_le _, hb, hn, hcm, by simp [Sort.putCells, hsz], ?_⟩⟩, rfl, rfl, rfl, by simp [Sort.grow, Sort.putRow, Sort.mapBlock, Sort.ahead], fun q hq hne => ?_⟩
    · apply List.ext_getElem?
      intro t
      rw [List.getElem?_take]
      split
      · rename_i h1
        rw [Array.getElem?_toList, Array.getElem?_toList]
        simp only [Sort.putCells, Array.getElem?_mapIdx]
        rw [Array.getElem?_eq_getElem (show t < cur.size by omega), Option.map_some, if_pos ⟨Nat.zero_le _, by omega⟩, Array.getElem?_eq_getElem (show t < F.size by omega), Nat.sub_zero, getElem!_pos F t (by omega)]; rfl
      · rw [List.getElem?_eq_none (by simp; omega)]
    · simp only [Sort.grow, Sort.putRow, Sort.mapBlock, Sort.ahead]
      rw [Array.getElem?_append_left (by simpa using hq), Array.getElem?_modify, if_neg (fun z => hne (by rw [z]))]
variable {P : Program} {ρ : Ren} {S : List Nat} {w0 : World} {v : Value} {R : List Row}
theorem sort_row (Ly : SlLaysF0.n6 P ρ) (aE : ∀ w, (isAgg (ρ.t 24)).run P w = .ok true w) (zE : ∀ w, (Go.sizeOf (ρ.t 24)).run P w = .ok k w) (hk : ∀ x, (enc x).length = k) (h1 : ∀ x, ∀ v ∈ enc x, v.oneCell' = true) (cf : α → α → Int) (hO : Sort.SWO (ltOf cf)) (gf : Nat)
    (eg : ∀ args w, (callFunc gf args).run P w = .ok (.enter gf args) w) (hcmp : ∀ (x y : α) (W : World), Calls P gf #[.agg (enc x).toArray, .agg (enc y).toArray] W fun e w' => e = .returned (.int .i64 (cf x y)) ∧ Grew W w')
    (hT : ∀ x y, (ltOf cf) x y = false → (ltOf cf) y x = false → x = y) (hM : Mem S w0 w (⟨E, k, v, l.length, recs enc l⟩ :: R)) (hsz : l.length < 4611686018427387904) :
    Calls P (ρ.f 6) #[v, .func (.func gf) #[] #[]] w fun e w' => e = .returned (.tuple #[]) ∧ Mem S w0 w' (⟨E, k, v, l.length, recs enc (l.mergeSort fun x y => !(ltOf cf) y x)⟩ :: R) := by
  have hown : w.ownsRow 0 E k v l.length (recs enc l) := hM.get 0 rfl
  rcases hown.2 with ⟨e, e2⟩ | ⟨g, cap, cur, e, _⟩
  · obtain rfl : l = [] := List.length_eq_zero_iff.1 e2
    subst e
    refine (AnyF.slices_SortFunc_none Ly none 0 _ w).mono ?_
    rintro _ _ ⟨rfl, rfl⟩
    exact ⟨rfl, by simpa using hM⟩
  · subst e
    obtain ⟨hH, hg⟩ := own_holds hk hown
    have hc : CmpLays P gf #[] enc k cf g 0 l.toArray.size w := fun m os dk _ x y => (hcmp x y _).mono fun e w' ⟨h, q, os', h2⟩ => ⟨h, q, os', h2⟩
    have key := AnyQ.slices_SortFunc_total Ly k aE zE enc hk h1 cf hO gf #[] g 0 cap l.toArray w eg hc hH hg (by simpa using hsz) hT
    simp only [List.size_toArray] at key
    refine key.mono ?_
    rintro _ _ ⟨rfl, m, os, rfl⟩
    refine ⟨rfl, ?_⟩
    have hl : (l.mergeSort fun x y => !(ltOf cf) y x).length = l.length := List.length_mergeSort _
    have hp := own_put (F := Sort.flatK enc k (l.mergeSort fun x y => !(ltOf cf) y x).toArray) hown (by simp [hl]) m os
    rw [flat_recs hk] at hp
    exact hM.grow 0 rfl (.inr rfl) (row := some g) hp.2 _ _ _ hp.1 (fun b hb => .inl hb)
end
end Go.Gw
