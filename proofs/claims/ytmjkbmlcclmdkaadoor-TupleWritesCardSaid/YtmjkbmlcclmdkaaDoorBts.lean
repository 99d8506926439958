/-
  The bytes of a text as a slice of the call's own, of which a stretch behind the bytes may be frozen. No condition beyond those that each theorem names.
-/
import Derived.Test.YtmjkbmlcclmdkaaDoorObj
import Derived.Laws.IdiomStrings
import Derived.Laws.AppendOwn
namespace Go.Gw
set_option linter.unusedVariables false
set_option linter.unusedSimpArgs false
open Go.RowKit
section
variable {P : Program} {w w0 : World}
/-- bytes in a block that is new since w0 -/
def Bts (w0 w : World) (v : Value) (l : List Int) : Prop :=
  Kept [] w0 w ∧ ∃ g cap cur e fz, v = .slice (some ⟨g, 0, none⟩) l.length cap ∧ w0.heap.size ≤ g ∧ w.heap[g]? = some (.cells cur e fz) ∧ l.length ≤ fz.1 ∧ l.length ≤ cap ∧ cap ≤ maxLen ∧ l.length ≤ cur.size ∧ cur.toList.take l.length = ivals .u8 l
def numsOf (l : List UInt8) : List Int := l.map fun c => (c.toNat : Int)
theorem numsOf_len (l : List UInt8) : (numsOf l).length = l.length := by simp [numsOf]
theorem numsOf_bytes (l : List UInt8) : bytesOf (numsOf l) = l := by
  unfold bytesOf numsOf
  rw [List.map_map]
  have : (fun x : Int => UInt8.ofNat x.toNat) ∘ (fun c : UInt8 => (c.toNat : Int)) = id := by funext c; simp
  rw [this, List.map_id]
theorem numsOf_bd (l : List UInt8) : ∀ x ∈ numsOf l, 0 ≤ x ∧ x ≤ 255 := by
  intro x hx
  obtain ⟨c, _, rfl⟩ := List.mem_map.1 hx
  have := c.toNat_lt; omega
theorem numsOf_get (l : List UInt8) (j : Nat) : (numsOf l).getD j 0 = bl l j := by
  unfold numsOf bl
  rw [List.getD_eq_getElem?_getD, List.getD_eq_getElem?_getD, List.getElem?_map]
  cases l[j]? <;> simp
theorem Bts.rd {v : Value} {l : List Int} (h : Bts w0 w v l) : Rd w 1 v l.length (ivals .u8 l) := by
  obtain ⟨_, g, cap, cur, e, fz, rfl, h1, h2, h3, h4, h5, h6, h7⟩ := h
  refine ⟨by simp [ivals], some ⟨g, 0, none⟩, cap, rfl, h4, h5, (fun e => by cases e), fun ad e => ?_⟩
  simp only [Option.some.injEq] at e
  subst e
  refine ⟨.inr rfl, fun j u hu => ?_⟩
  have hj : j < l.length := by have := (List.getElem?_eq_some_iff.1 hu).1; simpa [ivals] using this
  rw [← h7, List.getElem?_take_of_lt hj] at hu
  simp only [Nat.zero_add]
  unfold World.cell?
  simp only [h2]
  simpa using hu
theorem bts_store {E : TypeId} (hE1 : P.cellsOf E = 1) {v : Value} {l : List Int} (h : Bts w0 w v l) {j : Nat} {p : Addr} (hp : At v 1 j p) (hj : j < l.length) (x : Int) :
    ∃ w', (Instr.storeAt E (.pointer (some p)) (.int .u8 x)).run P w = .ok () w' ∧ Bts w0 w' v (l.set j x) := by
  have hrd := h.rd
  obtain ⟨hk, g, cap, cur, e, fz, rfl, h1, h2, h3, h4, h5, h6, h7⟩ := h
  obtain ⟨bl, off, n, c, e1, rfl⟩ := hp
  simp only [Value.slice.injEq, Option.some.injEq, Addr.mk.injEq, and_true] at e1
  obtain ⟨⟨rfl, rfl⟩, rfl, rfl⟩ := e1
  have hcell : w.cell? ⟨g, j, none⟩ = some ((ivals .u8 l)[j]'(by simpa [ivals] using hj)) := by
    obtain ⟨_, a, c, e, _, _, _, hc⟩ := hrd
    simp only [Value.slice.injEq] at e
    obtain ⟨rfl, _, _⟩ := e
    have := (hc _ rfl).2 j _ (List.getElem?_eq_getElem (by simpa [ivals] using hj))
    simpa using this
  have hfr : w.frozen? ⟨g, j, none⟩ = false := by
    unfold World.frozen?
    simp only [h2]
    simp; omega
  refine ⟨w.setCell ⟨g, j, none⟩ (.int .u8 x), ?_, ?_, g, cap, cur.setIfInBounds j (.int .u8 x), e, fz, ?_, h1, ?_, by simpa using h3, by simpa using h4, h5, by simpa using h6, ?_⟩
  · have hc1 : (Value.int .u8 x).cells = #[.int .u8 x] := rfl
    simp only [Nat.mul_one, Nat.zero_add]
    simp [Instr.storeAt, Instr.sureAddr, storeVar, size_one hE1, hc1, storeCells, Addr.add]
    rw [run_store _ _ _ _ _ rfl, hcell]
    simp [hfr]
  · refine ⟨hk.os, hk.tape, hk.output, ?_, fun b hb _ => ?_⟩
    · simpa [World.setCell] using hk.size
    · have := hk.block b hb (by simp)
      rw [← this]
      unfold World.setCell
      simp only [Array.getElem?_modify]
      rw [if_neg (by omega)]
  · simp
  · unfold World.setCell
    simp only [Array.getElem?_modify]
    rw [h2]; simp
  · rw [List.length_set, Array.toList_setIfInBounds, List.take_set, h7]
    simp [ivals, List.map_set]
theorem bts_of {src dst e : TypeId} (hs : P.underlying src = some .string) (hd : P.underlying dst = some (.slice e)) (he : P.underlying e = some (.int .u8)) {L : List Row} (hM : Mem [] w0 w L) (l : List UInt8) (hl : l.length ≤ 140737488355328) :
    ∃ v w', (convert src dst (.string (sb l))).run P w = .ok v w' ∧ Mem [] w0 w' L ∧ Bts w0 w' v (numsOf l) := by
  have hrun := run_bytes_of_string (P := P) w src dst e (sb l) hs hd he
  rw [sb_size] at hrun
  refine ⟨_, _, hrun, ?_, ?_⟩
  · refine hM.same ⟨rfl, rfl, rfl, ?_, fun k hk _ => ?_⟩
    · show w.heap.size ≤ (w.heap.push _).size
      simp
    · show (w.heap.push _)[k]? = w.heap[k]?
      rw [Array.getElem?_push_lt hk, Array.getElem?_eq_getElem hk]
  · have hge := grownCap_ge w l.length 0 e
    have hmx := grownCap_le_maxLen w l.length 0 e (by simp only [maxLen]; omega)
    have hsz : (bytesRow (sb l) (grownCap w l.length 0 e)).size = grownCap w l.length 0 e := by
      have h1 : (sb l).data.size = l.length := by simp [sb]
      simp only [bytesRow, Array.size_append, Array.size_map, Array.size_replicate, sb_size, h1]; omega
    refine ⟨hM.kept.trans ⟨rfl, rfl, rfl, ?_, fun k hk _ => ?_⟩, w.heap.size, grownCap w l.length 0 e, bytesRow (sb l) (grownCap w l.length 0 e), e, ((bytesRow (sb l) (grownCap w l.length 0 e)).size, (bytesRow (sb l) (grownCap w l.length 0 e)).size + 1), by rw [numsOf_len], hM.kept.size, ?_, ?_, by rw [numsOf_len]; exact hge, hmx, ?_, ?_⟩
    · show w.heap.size ≤ (w.heap.push _).size
      simp
    · show (w.heap.push _)[k]? = w.heap[k]?
      rw [Array.getElem?_push_lt hk, Array.getElem?_eq_getElem hk]
    · show (w.heap.push _)[w.heap.size]? = _
      exact Array.getElem?_push_size
    · show (numsOf l).length ≤ (bytesRow (sb l) _).size
      rw [numsOf_len, hsz]; exact hge
    · rw [numsOf_len, hsz]; exact hge
    · rw [numsOf_len]
      simp only [bytesRow, Array.toList_append, Array.toList_map]
      rw [List.take_append_of_le_length (by simp [sb])]
      rw [List.take_of_length_le (by simp [sb])]
      simp [sb, ivals, numsOf]
theorem Bts.mem {v : Value} {l : List Int} (h : Bts w0 w v l) : Mem [] w0 w [] := ⟨h.1, (fun _ h => by cases h), trivial, (fun _ h => by cases h)⟩
end
end Go.Gw
