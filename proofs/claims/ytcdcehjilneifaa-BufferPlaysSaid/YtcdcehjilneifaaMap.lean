/-
  A set of texts (a map from texts to true) that the call has made: what is asked, what is stored, what clears it. No condition beyond those that each theorem names.
-/
import Derived.Test.YtcdcehjilneifaaLend
import Derived.MapKept
namespace Go.Gw
set_option linter.unusedVariables false
set_option linter.unusedSimpArgs false
open Go.RowKit
/-- block B is the set of these texts -/
def MapIs (w : World) (B : Nat) (seen : List (List UInt8)) : Prop :=
  ∃ (es : Array MapEntry) (clk : Nat), w.heap[B]? = some (.map es clk) ∧ es.toList.map (fun e => (e.key, e.val)) = seen.map fun s => (Value.string (sb s), Value.bool true)
section
variable {P : Program} {w w0 w' : World} {S : List Nat} {L : List Row} {B : Nat} {seen : List (List UInt8)} {t K E : TypeId}
theorem MapIs.lt (h : MapIs w B seen) : B < w.heap.size := by
  obtain ⟨es, clk, h1, _⟩ := h
  exact (Array.getElem?_eq_some_iff.1 h1).1
theorem MapIs.kept (h : MapIs w B seen) (k : Kept S w w') (hB : B ∉ S) : MapIs w' B seen := by
  have hlt := h.lt
  obtain ⟨es, clk, h1, h2⟩ := h
  exact ⟨es, clk, (k.block B hlt hB).trans h1, h2⟩
theorem MapIs.kept0 (h : MapIs w B seen) (k : Kept [] w w') : MapIs w' B seen := h.kept k (by simp)
/-- it is none of the rows' blocks -/
theorem Mem.notmap (h : Mem S w0 w L) (hm : MapIs w B seen) : B ∉ blocks L := by
  intro hb
  obtain ⟨r, hr, hrb⟩ := mem_blocks.1 hb
  obtain ⟨es, clk, h1, _⟩ := hm
  obtain ⟨hl, hh⟩ := h.owns r hr
  rcases hh with ⟨e, _⟩ | ⟨g, cap, cur, e, _, hg, _⟩
  · rw [e] at hrb; cases hrb
  · rw [e] at hrb
    have : g = B := by simpa [Value.ownBlock] using hrb
    subst this
    rw [hg] at h1; cases h1
/-- a callee has turned that block alone -/
theorem Mem.joinB (h : Mem S w0 w L) (hm : MapIs w B seen) (k : Kept [B] w w') (hB : w0.heap.size ≤ B ∨ B ∈ S) : Mem S w0 w' L := by
  have hn := h.notmap hm
  refine ⟨⟨k.os.trans h.kept.os, k.tape.trans h.kept.tape, k.output.trans h.kept.output, Nat.le_trans h.kept.size k.size, fun b hb hs => ?_⟩, fun r hr => ?_, h.apart, h.mine⟩
  · rw [k.block b (Nat.lt_of_lt_of_le hb h.kept.size) ?_]
    · exact h.kept.block b hb hs
    · intro e
      obtain rfl : b = B := by simpa using e
      rcases hB with hB | hB
      · omega
      · exact hs hB
  · have ho := h.owns r hr
    have hlt := own_lt ho
    obtain ⟨hl, hh⟩ := ho
    refine ⟨hl, ?_⟩
    rcases hh with hh | ⟨g, cap, cur, e, hb, hg, h1, h2, h3, h4⟩
    · exact .inl hh
    · refine .inr ⟨g, cap, cur, e, hb, ?_, h1, h2, h3, h4⟩
      rw [k.block g (hlt g (by rw [e]; rfl)) ?_]
      · exact hg
      · intro e2
        obtain rfl : g = B := by simpa using e2
        exact hn (mem_blocks.2 ⟨r, hr, by rw [e]; rfl⟩)
theorem Kept.mono1 (h : Kept [] w w') : Kept [B] w w' := h.mono (fun b hb => by cases hb)
theorem Mem.mono1 (h : Mem [] w w' []) : Mem [B] w w' [] := ⟨h.kept.mono1, h.owns, h.apart, fun r hr => by cases hr⟩
theorem Mem.of_kept (h : Mem [] w w []) (k : Kept [B] w w') : Mem [B] w w' [] := ⟨k, fun r hr => (by cases hr), trivial, fun r hr => (by cases hr)⟩
theorem Mem.kept_back {R R' : List Row} (h : Mem S w0 w R) (c : Mem (blocks R) w w' R') : Kept S w0 w' := (Mem.back (R := R) (L := []) (by rw [List.append_nil]; exact h) c).kept
theorem findNow_is (k : List UInt8) : ∀ {es : List MapEntry} {seen : List (List UInt8)} (i : Nat), es.map (fun e => (e.key, e.val)) = seen.map (fun s => (Value.string (sb s), Value.bool true)) →
    (seen.contains k = false ∧ Instr.findNow .string (.string (sb k)) es i = some none) ∨ (seen.contains k = true ∧ ∃ j, Instr.findNow .string (.string (sb k)) es i = some (some (j, .bool true))) := by
  intro es
  induction es with
  | nil =>
    intro seen i h
    cases seen with
    | nil => exact .inl ⟨rfl, rfl⟩
    | cons _ _ => simp at h
  | cons e es ih =>
    intro seen i h
    cases seen with
    | nil => simp at h
    | cons s seen =>
      simp only [List.map_cons, List.cons.injEq, Prod.mk.injEq] at h
      obtain ⟨⟨hk, hv⟩, hr⟩ := h
      have e1 : Instr.sameNow .string (.string (sb k)) e.key = some (sb k == sb s) := by rw [hk]; rfl
      have e2 : (sb k == sb s) = (k == s) := by
        refine Bool.eq_iff_iff.2 (Iff.trans (Go.MapKept.bytes_beq (sb k) (sb s)) (Iff.trans ?_ (beq_iff_eq (a := k) (b := s)).symm))
        constructor
        · intro h; have := congrArg (fun x : ByteArray => x.data.toList) h; simpa [sb] using this
        · intro h; rw [h]
      rw [e2] at e1
      unfold Instr.findNow
      rw [e1]
      rcases Bool.eq_false_or_eq_true (k == s) with hks | hks
      · rw [hks]
        exact .inr ⟨by simp only [List.contains_cons, hks]; rfl, i, by rw [hv]⟩
      · rw [hks]
        rcases ih (i + 1) hr with ⟨a, b⟩ | ⟨a, b⟩
        · exact .inl ⟨by simp only [List.contains_cons, hks, a]; rfl, b⟩
        · exact .inr ⟨by simp only [List.contains_cons, hks, a]; rfl, b⟩
theorem f_lookup (ht : P.underlying t = some (.map K E)) (hK : P.underlying K = some .string) (hE : (zeroValue E).run P w = .ok (.bool false) w) (hm : MapIs w B seen) (s : List UInt8) :
    (Instr.lookup t (.map (some B)) (.string (sb s)) false).run P w = .ok (.bool (seen.contains s)) w := by
  obtain ⟨es, clk, h1, h2⟩ := hm
  have hu : ∀ (t : TypeId) d, P.underlying t = some d → (underlying t).run P w = .ok d w := fun t d h => by simp [underlying, h]
  have ho : (getObj B).run P w = .ok (.map es clk) w := by simp [getObj, Sem.run, h1]
  have hc : (Instr.checkKey es.isEmpty 10000 K (.string (sb s))).run P w = .ok () w := by
    unfold Instr.checkKey
    simp [hu K _ hK]
  have hf : ∀ r, Instr.findNow .string (.string (sb s)) es.toList 0 = some r → (Instr.findKey K (.string (sb s)) es.toList).run P w = .ok r w := by
    intro r hr
    unfold Instr.findKey
    simp [hu K _ hK, hr]
  unfold Instr.lookup
  rcases findNow_is s 0 h2 with ⟨a, b⟩ | ⟨a, j, b⟩
  · simp only [Sem.run_bind, hu t _ ht, Result.andThen_ok, ho, hc, hf _ b, Sem.run_pure, hE, a]
    rfl
  · simp only [Sem.run_bind, hu t _ ht, Result.andThen_ok, ho, hc, hf _ b, Sem.run_pure, a]
    rfl
theorem m_mapset (ht : P.underlying t = some (.map K E)) (hK : P.underlying K = some .string) (hm : MapIs w B seen) (s : List UInt8) (hn : seen.contains s = false) :
    ∃ w', (Instr.mapUpdate t (.map (some B)) (.string (sb s)) (.bool true)).run P w = .ok () w' ∧ Kept [B] w w' ∧ MapIs w' B (seen ++ [s]) := by
  have hlt := hm.lt
  obtain ⟨es, clk, h1, h2⟩ := hm
  have hu : ∀ (t : TypeId) d, P.underlying t = some d → (underlying t).run P w = .ok d w := fun t d h => by simp [underlying, h]
  have ho : (getObj B).run P w = .ok (.map es clk) w := by simp [getObj, Sem.run, h1]
  have hc : (Instr.checkKey false 10000 K (.string (sb s))).run P w = .ok () w := by
    unfold Instr.checkKey
    simp [hu K _ hK]
  have hf : (Instr.findKey K (.string (sb s)) es.toList).run P w = .ok none w := by
    unfold Instr.findKey
    rcases findNow_is s 0 h2 with ⟨a, b⟩ | ⟨a, j, b⟩
    · simp [hu K _ hK, b]
    · rw [hn] at a; cases a
  have hs : ∀ o, (setObj B o).run P w = .ok () { w with heap := w.heap.setIfInBounds B o } := fun o => by simp [setObj, Sem.run, h1]
  refine ⟨{ w with heap := w.heap.setIfInBounds B (.map (es.push { key := .string (sb s), val := .bool true, born := clk }) (clk + 1)) }, ?_, ⟨rfl, rfl, rfl, by simp, fun b hb hbs => ?_⟩, ?_⟩
  · unfold Instr.mapUpdate
    simp only [Sem.run_bind, hu t _ ht, Result.andThen_ok, ho, hc, hf, hs]
  · have : B ≠ b := by intro e; exact hbs (by simp [e])
    simp [Array.getElem?_setIfInBounds_ne this]
  · exact ⟨es.push { key := .string (sb s), val := .bool true, born := clk }, clk + 1, by simp [hlt], by simp [h2]⟩
theorem m_makemap (ht : P.underlying t = some (.map K E)) (h : Mem S w0 w L) : ∃ B w', (Instr.makeMap t none).run P w = .ok (.map (some B)) w' ∧ w.heap.size ≤ B ∧ MapIs w' B [] ∧ Mem S w0 w' L := by
  have hr : (Instr.makeMap t none).run P w = .ok (.map (some w.heap.size)) { w with heap := w.heap.push (.map #[] 0) } := by
    simp [Instr.makeMap, newObj, Sem.run]
  have hk : Kept [] w { w with heap := w.heap.push (.map #[] 0) } := ⟨rfl, rfl, rfl, by simp, fun b hb _ => by simp [Array.getElem?_push, Nat.ne_of_lt hb]⟩
  exact ⟨_, _, hr, Nat.le_refl _, ⟨#[], 0, by simp, rfl⟩, h.ext hk⟩
theorem m_clearmap (ht : P.underlying t = some (.map K E)) (hm : MapIs w B seen) (n : TypeId) :
    ∃ w', (Builtin.clear_ #[t] n #[.map (some B)]).run P w = .ok (.tuple #[]) w' ∧ Kept [B] w w' ∧ MapIs w' B [] := by
  have hlt := hm.lt
  obtain ⟨es, clk, h1, h2⟩ := hm
  have hu : (underlying t).run P w = .ok (.map K E) w := by simp [underlying, ht]
  have ho : (getObj B).run P w = .ok (.map es clk) w := by simp [getObj, Sem.run, h1]
  have hs : ∀ o, (setObj B o).run P w = .ok () { w with heap := w.heap.setIfInBounds B o } := fun o => by simp [setObj, Sem.run, h1]
  refine ⟨{ w with heap := w.heap.setIfInBounds B (.map #[] clk) }, ?_, ⟨rfl, rfl, rfl, by simp, fun b hb hbs => ?_⟩, ⟨#[], clk, by simp [hlt], rfl⟩⟩
  · simp [Builtin.clear_, hu, ho, hs]
  · have : B ≠ b := by intro e; exact hbs (by simp [e])
    simp [Array.getElem?_setIfInBounds_ne this]
end
end Go.Gw
