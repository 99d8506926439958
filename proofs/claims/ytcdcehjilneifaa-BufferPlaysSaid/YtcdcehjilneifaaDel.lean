/-
  What slices.Delete does in memory, step by step. No condition beyond those that each theorem names.
-/
import Derived.Test.YtcdcehjilneifaaObj
import Derived.Test.YtcdcehjilneifaaRec
namespace Go.Gw
set_option linter.unusedVariables false
set_option linter.unusedSimpArgs false
open Go.RowKit
section
variable {P : Program} {t E : TypeId} {k b n c : Nat} {z : Value} {w w0 : World} {S : List Nat} {L : List Row} {xs : List Value}
theorem f_three (hT : SliceT P t E k b z) (g : Nat) {i j : Int} (a d : Nat) (hi : i = (a : Int)) (hj : j = (d : Int)) (hij : a ≤ d) (hjn : d ≤ n) (hn : n ≤ c) (W : World) :
    (Instr.sliceAt t (.slice (some ⟨g, 0, none⟩) n c) (some (.int .i64 i)) (some (.int .i64 j)) (some (.int .i64 ((n : Nat) : Int)))).run P W = .ok (.slice (if n = a then some ⟨g, 0, none⟩ else some ((⟨g, 0, none⟩ : Addr).add (a * k))) (d - a) (n - a)) W := by
  subst hi; subst hj
  have h1 := run_sliceBound (P := P) W .i64 (n : Int) c .slice3Acap (by omega) (by omega)
  have h2 := run_sliceBound (P := P) W .i64 (d : Int) n .slice3B (by omega) (by omega)
  have h3 := run_sliceBound (P := P) W .i64 (a : Int) d .slice3C (by omega) (by omega)
  have e : (Instr.slice t (.slice (some ⟨g, 0, none⟩) n c) (some (.int .i64 (a : Int))) (some (.int .i64 (d : Int))) (some (.int .i64 ((n : Nat) : Int)))).run P W = .ok (.slice (if n = a then some ⟨g, 0, none⟩ else some ((⟨g, 0, none⟩ : Addr).add (a * k))) (d - a) (n - a)) W := by
    simp [Instr.slice, run_underlying hT.under, Instr.sliceBounds, h1, h2, h3, hT.size]
  simp only [Instr.sliceAt, Sem.run_bind, run_underlying hT.under, Result.andThen_ok]
  exact e
/-- what stands behind the row -/
theorem f_behind (hT : SliceT P t E k b z) (g : Nat) {i j : Int} (m d : Nat) (hi : i = (m : Int)) (hj : j = (d : Int)) (hmd : m < d) (hd : d ≤ c) (W : World) :
    (Instr.sliceAt t (.slice (some ⟨g, 0, none⟩) m c) (some (.int .i64 i)) (some (.int .i64 j)) none).run P W = .ok (.slice (some ⟨g, m * k, none⟩) (d - m) (c - m)) W := by
  subst hi; subst hj
  have h1 := run_sliceBound (P := P) W .i64 (d : Int) c .sliceAcap (by omega) (by omega)
  have h2 := run_sliceBound (P := P) W .i64 (m : Int) d .sliceB (by omega) (by omega)
  have h3 : ¬ c = m := by omega
  have hadd : (⟨g, 0, none⟩ : Addr).add (m * k) = ⟨g, m * k, none⟩ := by unfold Addr.add; split <;> simp_all
  have e : (Instr.slice t (.slice (some ⟨g, 0, none⟩) m c) (some (.int .i64 (m : Int))) (some (.int .i64 (d : Int))) none).run P W = .ok (.slice (some ⟨g, m * k, none⟩) (d - m) (c - m)) W := by
    simp [Instr.slice, run_underlying hT.under, Instr.sliceBounds, h1, h2, h3, hT.size, hadd]
  simp only [Instr.sliceAt, Sem.run_bind, run_underlying hT.under, Result.andThen_ok]
  exact e
/-- behind the first i elements of a row, in place -/
theorem m_appin (hT : SliceT P t E k b z) (hM : Mem S w0 w L) (q : Nat) {g : Nat} (hr : L[q]? = some ⟨E, k, .slice (some ⟨g, 0, none⟩) n c, n, xs⟩) (i : Nat) {x : Value} {m : Nat} {news : List Value}
    (hx : Rd w k x m news) (h1 : ∀ u ∈ news, u.oneCell' = true) (hfit : i + m ≤ n) (ty : TypeId) :
    ∃ w', (Builtin.append_ #[t, t] ty #[.slice (some ⟨g, 0, none⟩) i c, x]).run P w = .ok (.slice (some ⟨g, 0, none⟩) (i + m) c) w' ∧ Mem S w0 w' (L.set q ⟨E, k, .slice (some ⟨g, 0, none⟩) (i + m) c, i + m, xs.take (i * k) ++ news⟩) := by
  have hnc : n ≤ c := by
    rcases (hM.get q hr).2 with ⟨e, _⟩ | ⟨g', cap, cur, e, _, _, hn, _⟩
    · cases e
    · cases e; exact hn
  have hM2 := hM.cutrow q hr i (by simp only; omega)
  simp only [cut] at hM2
  have hq : q < L.length := by rw [List.getElem?_eq_some_iff] at hr; exact hr.1
  have hr2 : (L.set q ⟨E, k, .slice (some ⟨g, 0, none⟩) i c, i, xs.take (i * k)⟩)[q]? = some ⟨E, k, .slice (some ⟨g, 0, none⟩) i c, i, xs.take (i * k)⟩ := by simp [hq]
  obtain ⟨ti, hi, hz, hk, hby⟩ := hT.info
  have hown : w.ownsRow 0 E k (.slice (some ⟨g, 0, none⟩) i c) i (xs.take (i * k)) := hM2.get q hr2
  have fin : ∀ {w' : World}, w.grownBy w' (some g) → w'.ownsRow 0 E k (.slice (some ⟨g, 0, none⟩) (i + m) c) (i + m) (xs.take (i * k) ++ news) → Mem S w0 w' (L.set q ⟨E, k, .slice (some ⟨g, 0, none⟩) (i + m) c, i + m, xs.take (i * k) ++ news⟩) := by
    intro w' hg ho
    have := hM2.grow q hr2 (.inr rfl) (row := some g) hg _ _ _ ho (fun b hb => .inl hb)
    rw [List.set_set] at this
    exact this
  obtain ⟨hl, a, c', rfl, hmc, hc, hnil, hcell⟩ := hx
  cases a with
  | none =>
    obtain ⟨rfl, rfl⟩ := hnil rfl
    have hn0 : news = [] := List.eq_nil_of_length_eq_zero (by simpa using hl)
    subst hn0
    refine ⟨w, ?_, fin ⟨rfl, rfl, rfl, Nat.le_refl _, fun _ _ _ => rfl⟩ (by rw [List.append_nil]; exact hown)⟩
    rcases hown.2 with ⟨h, _⟩ | ⟨g', cap, cur, h, _, hg, hn, _, _, _⟩
    · cases h
    · cases h
      simp [Builtin.append_, run_underlying hT.under, sizeOf, typeInfo, hi, Builtin.lenOf, Builtin.firstCells, hn, storeCells]
  | some ad =>
    obtain ⟨hsp, hcs⟩ := hcell ad rfl
    have hnews : ∀ j u, news[j]? = some u → w.cell? (ad.add j) = some u := by
      intro j u hu
      rcases hsp with rfl | hsp
      · cases hu
      · have hadd : ad.add j = ⟨ad.block, ad.off + j, none⟩ := by obtain ⟨x, y, zz⟩ := ad; simp only at hsp; subst hsp; unfold Addr.add; split <;> simp_all
        rw [hadd]; exact hcs j u hu
    obtain ⟨w', hrun, ho, hg⟩ := run_append_fits (P := P) (w := w) 0 t ty E ti k hT.under hi hk g i c (xs.take (i * k)) hown ad m c' news hl hnews h1 (by omega)
    exact ⟨w', hrun, fin hg ho⟩
/-- what stands behind a row is cleared -/
theorem m_clear (hT : SliceT P t E k b z) (hz1 : ∀ u ∈ z.cells.toList, u.oneCell' = true) (hM : Mem S w0 w L) (q : Nat) {g m : Nat} (hr : L[q]? = some ⟨E, k, .slice (some ⟨g, 0, none⟩) m c, m, xs⟩) (d cc : Nat) (hd : m + d ≤ c) (h0 : 0 < d) (ty : TypeId) :
    ∃ w', (Builtin.clear_ #[t] ty #[.slice (some ⟨g, m * k, none⟩) d cc]).run P w = .ok (.tuple #[]) w' ∧ Mem S w0 w' L := by
  obtain ⟨ti, hi, hz, hk, hby⟩ := hT.info
  have hown : w.ownsRow 0 E k (.slice (some ⟨g, 0, none⟩) m c) m xs := hM.get q hr
  rcases hown.2 with ⟨e, _⟩ | ⟨g', cap, cur, e, hb, hg, hn, hcm, hcs, ht⟩
  · cases e
  · simp only [Value.slice.injEq, Option.some.injEq, Addr.mk.injEq, and_true, true_and] at e
    obtain ⟨rfl, rfl⟩ := e
    have hzl : (Builtin.zeroCells z.cells d).toList.length = d * k := by rw [Array.length_toList, size_zeroCells, hT.cells]
    have hz2 : ∀ u ∈ (Builtin.zeroCells z.cells d).toList, u.oneCell' = true := by
      intro u hu
      unfold Builtin.zeroCells at hu
      simp only [Array.toList_map, List.mem_map] at hu
      obtain ⟨i, hi, rfl⟩ := hu
      have hlt : i % z.cells.size < z.cells.size := Nat.mod_lt _ (by rw [hT.cells]; exact hT.pos)
      rw [getElem!_pos z.cells _ hlt]
      exact hz1 _ (Array.getElem_mem_toList hlt)
    have hle : (m + d) * k ≤ c * k := Nat.mul_le_mul_right k hd
    rw [Nat.add_mul] at hle
    have hst := run_storeCells_at (P := P) g (m * k) E (Builtin.zeroCells z.cells d).toList 0 cur w hg (by rw [hzl, hcs]; omega) hz2
    have hg2 : w.grownBy (w.setRow g (cur.toList.take (m * k + 0) ++ (Builtin.zeroCells z.cells d).toList ++ cur.toList.drop (m * k + 0 + (Builtin.zeroCells z.cells d).toList.length)).toArray) (some g) := ⟨rfl, rfl, rfl, by simp, fun q _ hq => setRow_other w g q _ (fun e => hq (by rw [e]))⟩
    have ho2 : (w.setRow g (cur.toList.take (m * k + 0) ++ (Builtin.zeroCells z.cells d).toList ++ cur.toList.drop (m * k + 0 + (Builtin.zeroCells z.cells d).toList.length)).toArray).ownsRow 0 E k (.slice (some ⟨g, 0, none⟩) m c) m xs := by
      refine ⟨hown.1, .inr ⟨g, c, _, rfl, Nat.zero_le _, setRow_heap w g cur _ E _ hg, hn, hcm, ?_, ?_⟩⟩
      · rw [List.size_toArray]
        simp only [List.length_append, List.length_take, List.length_drop, hzl, Array.length_toList, hcs]
        omega
      · rw [← ht]
        simp only [Nat.add_zero, List.append_assoc]
        rw [List.take_append_of_le_length (by rw [List.length_take, Array.length_toList, hcs]; have := Nat.mul_le_mul_right k hn; omega), List.take_take, Nat.min_self]
    have hM2 := hM.grow q hr (.inr rfl) (row := some g) hg2 _ _ _ ho2 (fun b hb => .inl hb)
    refine ⟨_, ?_, hM2.cast ?_⟩
    · obtain ⟨d', rfl⟩ : ∃ d', d = d' + 1 := ⟨d - 1, by omega⟩
      simp [Builtin.clear_, run_underlying hT.under, zeroValue, typeInfo, hi, hz, hst]
    · exact List.ext_getElem? (fun j => by
        by_cases h : q = j
        · subst h; rw [List.getElem?_set_self (by rw [List.getElem?_eq_some_iff] at hr; exact hr.1), hr]
        · rw [List.getElem?_set_ne h])
end
end Go.Gw
