/-
  strings.Builder: its address told to itself, its bytes told as a string. No condition beyond those that each theorem names.
-/
import Derived.Test.YtmjkbmlcclmdkaaDoorObj
import Derived.Test.YtmjkbmlcclmdkaaDoorLend
import Derived.Lib.Builder
import Derived.Lib.UnsafeStr
namespace Go.Gw
set_option linter.unusedVariables false
set_option linter.unusedSimpArgs false
open Go.RowKit
section
variable {P : Program} {T E : TypeId} {k n : Nat} {w w0 : World} {S : List Nat} {L : List Row} {xs : List Value}
theorem obj_shape {b : Nat} (h : w.ownsRow 0 T k (obj b) 1 xs) : w.shape? b = some (T, k) := by
  rcases h.2 with ⟨e, _⟩ | ⟨g, cap, cur, hv, _, hg, _, _, hcs, _⟩
  · cases e
  · simp only [obj, Value.slice.injEq, Option.some.injEq, Addr.mk.injEq] at hv
    obtain ⟨⟨rfl, _⟩, _, rfl⟩ := hv
    unfold World.shape?
    rw [hg]
    simp [hcs]
theorem f_toU {src dst t : TypeId} {b : Nat} {j : TypeInfo} (hs : P.underlying src = some (.pointer t)) (hd : P.underlying dst = some .unsafePointer) (ht : P.info? t = some j) (hj : j.size ≠ 0) (h : w.ownsRow 0 T k (obj b) 1 xs) (hk : 0 < k) :
    (convert src dst (.pointer (some ⟨b, 0, none⟩))).run P w = .ok (.pointer (some ⟨b, 0, none⟩)) w := Lib.run_to_unsafe w ⟨b, 0, none⟩ hs hd ht hj (obj_shape h) hk
theorem f_fromU {src dst u : TypeId} {b : Nat} {j : TypeInfo} (hs : P.underlying src = some .unsafePointer) (hd : P.underlying dst = some (.pointer u)) (hu : P.info? u = some j) (h : w.ownsRow 0 T k (obj b) 1 xs) (hl : liesAt P P.depth T (k / P.cellsOf T) 0 u 1 = true) :
    (convert src dst (.pointer (some ⟨b, 0, none⟩))).run P w = .ok (.pointer (some ⟨b, 0, none⟩)) w := Lib.run_from_unsafe w ⟨b, 0, none⟩ hs hd hu (obj_shape h) hl
theorem sl_form {v : Value} {n : Nat} {xs : List Value} (h : w.ownsRow 0 E 1 v n xs) (h0 : 0 < n) : ∃ g cap, v = .slice (some ⟨g, 0, none⟩) n cap ∧ cap ≠ 0 := by
  rcases h.2 with ⟨_, e⟩ | ⟨g, cap, cur, hv, _, hg, hnc, _⟩
  · omega
  · exact ⟨g, cap, hv, by omega⟩
theorem f_sdata {ts : Array TypeId} {ty : TypeId} {v : Value} {g n cap : Nat} (hv : v = .slice (some ⟨g, 0, none⟩) n cap) (hc : cap ≠ 0) (W : World) : (Builtin.unsafeSliceData_ ts ty #[v]).run P W = .ok (.pointer (some ⟨g, 0, none⟩)) W := by
  subst hv; exact Lib.run_unsafeSliceData_row W ts ty ⟨g, 0, none⟩ n cap hc
/-- the bytes of a row as a string; the row is given up -/
theorem m_ustr {pt it ty : TypeId} {v : Value} {l : List Int} {g cap : Nat} {R : List Row} (hp : P.underlying pt = some (.pointer E)) (hc : P.cellsOf E = 1) (hM : Mem S w0 w (⟨E, 1, v, l.length, ivals .u8 l⟩ :: R))
    (hv : v = .slice (some ⟨g, 0, none⟩) l.length cap) (hb : ∀ x ∈ l, 0 ≤ x ∧ x ≤ 255) (h0 : 0 < l.length) :
    ∃ w', (Builtin.unsafeString_ #[pt, it] ty #[.pointer (some ⟨g, 0, none⟩), .int .i64 ((l.length : Nat) : Int)]).run P w = .ok (.string (sb (bytesOf l))) w' ∧ Mem S w0 w' R := by
  have hown := hM.get 0 (r := ⟨E, 1, v, l.length, ivals .u8 l⟩) rfl
  obtain ⟨g', cap', cur, hv', _, hg, hnc, hm, hcs, htk⟩ : ∃ g cap cur, v = .slice (some ⟨g, 0, none⟩) l.length cap ∧ 0 ≤ g ∧ w.heap[g]? = some (.cells cur E (0, 0)) ∧ l.length ≤ cap ∧ cap ≤ maxLen ∧ cur.size = cap * 1 ∧ cur.toList.take (l.length * 1) = ivals .u8 l := by
    rcases hown.2 with ⟨_, e⟩ | ⟨g, cap, cur, hv, r⟩
    · simp only at e; omega
    · exact ⟨g, cap, cur, hv, r⟩
  obtain ⟨rfl, rfl⟩ : g' = g ∧ cap' = cap := by
    rw [hv] at hv'
    simp only [Value.slice.injEq, Option.some.injEq, Addr.mk.injEq] at hv'
    exact ⟨hv'.1.1.symm, hv'.2.2.symm⟩
  have hlen : (bytesOf l).length = l.length := by simp [bytesOf]
  have hne : bytesOf l ≠ [] := fun e => by rw [e] at hlen; simp at hlen; omega
  have hsh : w.shape? g' = some (E, cur.size) := by unfold World.shape?; rw [hg]
  refine ⟨w.freeze ⟨g', 0, none⟩ l.length, ?_, ?_⟩
  · have := Lib.run_unsafeString_row (P := P) w pt it ty E hp hc g' cur.size hsh (bytesOf l) hne (by omega) (by unfold maxLen at hm; omega) (by
      intro j x hx
      have hj : j < l.length := by rw [← hlen]; exact (List.getElem?_eq_some_iff.1 hx).1
      have h1 := hown.cells (g := g') (show v.ownBlock = some g' by rw [hv]; rfl) j (.int .u8 ((x.toNat : Nat) : Int)) (by
        rw [ivals_at hj]
        congr 2
        have h2 := hb (l.getD j 0) (by rw [List.getD_eq_getElem?_getD, List.getElem?_eq_getElem hj]; exact List.getElem_mem hj)
        have h3 : x = UInt8.ofNat (l.getD j 0).toNat := by
          unfold bytesOf at hx
          rw [List.getElem?_map, List.getElem?_eq_getElem hj, Option.map_some, Option.some.injEq] at hx
          rw [List.getD_eq_getElem?_getD, List.getElem?_eq_getElem hj]; exact hx.symm
        rw [h3]
        generalize l.getD j 0 = z at *
        have h4 : (UInt8.ofNat z.toNat).toNat = z.toNat := by simp; omega
        rw [h4]; omega)
      exact h1)
    rw [hlen] at this
    rw [this]
    rfl
  · have hg0 : ∀ b, v.ownBlock = some b → b = g' := by
      intro b hb'
      rw [hv] at hb'
      simp [Value.ownBlock] at hb'
      exact hb'.symm
    have hmine := hM.mine _ (List.mem_cons_self ..) g' (by rw [hv]; rfl)
    have hap := hM.apart
    have hheap : ∀ i, i ≠ g' → (w.freeze ⟨g', 0, none⟩ l.length).heap[i]? = w.heap[i]? := by
      intro i hi
      unfold World.freeze
      split
      · rfl
      · simp only [Array.getElem?_modify]
        rw [if_neg (fun z => hi z.symm)]
    have hsize : (w.freeze ⟨g', 0, none⟩ l.length).heap.size = w.heap.size := by
      unfold World.freeze; split <;> simp
    have hk : Kept S w0 (w.freeze ⟨g', 0, none⟩ l.length) := by
      refine ⟨?_, ?_, ?_, ?_, ?_⟩
      · rw [← hM.kept.os]; unfold World.freeze; split <;> rfl
      · rw [← hM.kept.tape]; unfold World.freeze; split <;> rfl
      · rw [← hM.kept.output]; unfold World.freeze; split <;> rfl
      · rw [hsize]; exact hM.kept.size
      · intro i hi hS
        rw [hheap i ?_]
        · exact hM.kept.block i hi hS
        · rintro rfl
          rcases hmine with z | z
          · exact hS z
          · omega
    refine ⟨hk, fun r hr => ?_, hap.2, fun r hr => hM.mine r (List.mem_cons_of_mem _ hr)⟩
    have h1 := hM.owns r (List.mem_cons_of_mem _ hr)
    have h2 := hap.1 r hr
    refine ⟨h1.1, ?_⟩
    rcases h1.2 with z | ⟨g2, cap2, cur2, hv2, z0, hg2, z1⟩
    · exact .inl z
    · refine .inr ⟨g2, cap2, cur2, hv2, z0, ?_, z1⟩
      rw [hheap g2 ?_]
      · exact hg2
      · rintro rfl
        rw [hv, hv2] at h2
        simp [Value.ownBlock] at h2
end
end Go.Gw
