/-
  Objects: variables of structs and arrays, and their cells. No condition beyond those that each theorem names.
-/
import Derived.Test.YtnhplkkbpmijdaaMem
import Derived.Laws.Cells
import Derived.Laws.CopyRow
namespace Go.Gw
set_option linter.unusedVariables false
set_option linter.unusedSimpArgs false
open Go.RowKit

/-- a variable's block, told as a row of one -/
def obj (b : Nat) : Value := .slice (some ⟨b, 0, none⟩) 1 1
/-- the address of a cell of a row -/
def Cel (v : Value) (c : Nat) (p : Addr) : Prop := ∃ bl off n m, v = .slice (some ⟨bl, off, none⟩) n m ∧ p = ⟨bl, off + c, none⟩
theorem cel_obj (b c : Nat) : Cel (obj b) c ⟨b, c, none⟩ := ⟨b, 0, 1, 1, rfl, by simp⟩
theorem At.cel {v : Value} {k j : Nat} {p : Addr} (h : At v k j p) : Cel v (j * k) p := h
theorem At.cel1 {v : Value} {j : Nat} {p : Addr} (h : At v 1 j p) : Cel v j p := by
  obtain ⟨bl, off, n, c, h1, h2⟩ := h
  exact ⟨bl, off, n, c, h1, by rw [h2, Nat.mul_one]⟩
theorem Cel.add {v : Value} {c : Nat} {p : Addr} (h : Cel v c p) (d : Nat) : Cel v (c + d) (p.add d) := by
  obtain ⟨bl, off, n, m, rfl, rfl⟩ := h
  refine ⟨bl, off, n, m, rfl, ?_⟩
  unfold Addr.add
  split
  · subst_vars; simp
  · simp [Nat.add_assoc]
theorem Cel.cast {v : Value} {c d : Nat} {p : Addr} (h : Cel v c p) (e : c = d) : Cel v d p := e ▸ h
theorem obj_add (b c d : Nat) : (⟨b, c, none⟩ : Addr).add d = ⟨b, c + d, none⟩ := by
  unfold Addr.add; split
  · subst_vars; rfl
  · rfl

/-- a slice's value is a slice -/
theorem rd_form {w : World} {k n : Nat} {v : Value} {xs : List Value} (h : Rd w k v n xs) : ∃ a m c, v = .slice a m c := by
  obtain ⟨_, a, c, hv, _⟩ := h; exact ⟨a, n, c, hv⟩
theorem rd_one {w : World} {k n : Nat} {v : Value} {xs : List Value} (h : Rd w k v n xs) : v.oneCell' = true := by
  obtain ⟨a, m, c, rfl⟩ := rd_form h; rfl
theorem rd_cells {w : World} {k n : Nat} {v : Value} {xs : List Value} (h : Rd w k v n xs) : v.cells = #[v] := by
  obtain ⟨a, m, c, rfl⟩ := rd_form h; rfl
theorem rd_cellsl {w : World} {k n : Nat} {v : Value} {xs : List Value} (h : Rd w k v n xs) : v.cells.toList = [v] := by rw [rd_cells h]
structure ObjT (P : Program) (T : TypeId) (k : Nat) (z : Value) : Prop where
  info : ∃ i, P.info? T = some i ∧ i.zero = some z ∧ i.size = k
  cells : z.cells.size = k

section
variable {P : Program} {T E : TypeId} {k : Nat} {z : Value} {w w0 : World} {S : List Nat} {L : List Row}

theorem ownsRow_var {cs : Array Value} (hs : cs.size = k) : (w.alloc (.cells cs E)).ownsRow 0 E k (obj w.heap.size) 1 cs.toList :=
  ownsRow_old (n := 1) (by simpa using hs) (by decide)

theorem m_alloc (hT : ObjT P T k z) (hM : Mem S w0 w L) :
    ∃ b w', (Instr.alloc T true (.tuple #[])).run P w = .ok (.pointer (some ⟨b, 0, none⟩)) w' ∧ Mem S w0 w' (⟨T, k, obj b, 1, z.cells.toList⟩ :: L) := by
  obtain ⟨i, hi, hz, hk⟩ := hT.info
  refine ⟨w.heap.size, w.alloc (.cells z.cells T), ?_, hM.push (World.grownBy_alloc w _ none) ⟨T, k, _, 1, _⟩ (ownsRow_var hT.cells) ?_⟩
  · simp [Instr.alloc, zeroValue, typeInfo, hi, hz, newVar, newRow]
  · intro c hc
    simp [obj, Value.ownBlock] at hc
    omega
theorem m_box {u : Value} {cs : List Value} (hcs : u.cells.toList = cs) (hk : cs.length = k) (hM : Mem S w0 w L) :
    ∃ b w', (Instr.box T u).run P w = .ok (.pointer (some ⟨b, 0, none⟩)) w' ∧ Mem S w0 w' (⟨T, k, obj b, 1, cs⟩ :: L) := by
  refine ⟨w.heap.size, w.alloc (.cells u.cells T), ?_, hM.push (World.grownBy_alloc w _ none) ⟨T, k, _, 1, _⟩ ?_ ?_⟩
  · simp [Instr.box, newVar, newRow]
  · subst hcs
    exact ownsRow_var (by simpa using hk)
  · intro c hc
    simp [obj, Value.ownBlock] at hc
    omega

theorem cel_cell {v : Value} {n : Nat} {xs : List Value} (h : Rd w k v n xs) {c : Nat} {p : Addr} (hp : Cel v c p) {u : Value} (hu : xs[c]? = some u) : w.cell? p = some u := by
  obtain ⟨bl, off, n', c', rfl, rfl⟩ := hp
  obtain ⟨_, a, m, e, _, _, _, hcell⟩ := h
  simp only [Value.slice.injEq] at e
  obtain ⟨rfl, rfl, rfl⟩ := e
  exact (hcell _ rfl).2 c u hu
theorem c_load (hE : Plain P E) {v : Value} {n : Nat} {xs : List Value} (h : Rd w k v n xs) {c : Nat} {p : Addr} (hp : Cel v c p) {u : Value} (hu : xs[c]? = some u) :
    (Instr.loadAt E (.pointer (some p))).run P w = .ok u w := cell_load hE (cel_cell h hp hu)
/-- a struct, an array -/
def Agged (P : Program) (E : TypeId) (m : Nat) : Prop := (∃ d, P.underlying E = some d ∧ ((∃ fs, d = .struct fs) ∨ (∃ q e, d = .array q e))) ∧ ∃ i, P.info? E = some i ∧ i.size = m
theorem agged_agg {m : Nat} (h : Agged P E m) (W : World) : (isAgg E).run P W = .ok true W := by
  obtain ⟨⟨d, hd, h1⟩, _⟩ := h
  unfold isAgg
  rw [Sem.run_bind, run_underlying hd]
  simp only [Result.andThen_ok]
  rcases h1 with ⟨fs, rfl⟩ | ⟨q, e, rfl⟩ <;> rfl
theorem agged_size {m : Nat} (h : Agged P E m) (W : World) : (sizeOf E).run P W = .ok m W := by
  obtain ⟨_, i, hi, hk⟩ := h
  simp [sizeOf, typeInfo, hi, hk]
theorem c_loads {m : Nat} (hE : Agged P E m) {v : Value} {n : Nat} {xs : List Value} (h : Rd w k v n xs) {c : Nat} {p : Addr} (hp : Cel v c p) {ys : List Value} (hy : ys.length = m)
    (hu : ∀ j u, ys[j]? = some u → xs[c + j]? = some u) : (Instr.loadAt E (.pointer (some p))).run P w = .ok (.agg ys.toArray) w := by
  subst hy
  have := run_loadCells_list (P := P) w p ys (fun j u hj => cel_cell h (hp.add j) (hu j u hj))
  simp [Instr.loadAt, Instr.sureAddr, loadVar, agged_agg hE, agged_size hE, this]

theorem size_one (hE1 : P.cellsOf E = 1) (W : World) : (sizeOf E).run P W = .ok 1 W := by
  have : ∃ i, P.info? E = some i ∧ i.size = 1 := by
    unfold Program.cellsOf at hE1
    cases hq : P.info? E with
    | none => rw [hq] at hE1; simp at hE1
    | some q => rw [hq] at hE1; exact ⟨q, rfl, by simpa using hE1⟩
  obtain ⟨i, hi, hk⟩ := this
  simp [sizeOf, typeInfo, hi, hk]

theorem c_store (hE1 : P.cellsOf E = 1) (hM : Mem S w0 w L) (i : Nat) {v : Value} {n : Nat} {xs : List Value} (hr : L[i]? = some ⟨T, k, v, n, xs⟩) {c : Nat} {p : Addr} (hp : Cel v c p) (hj : c < n * k)
    {u : Value} (hu : u.oneCell' = true) (hc : u.cells = #[u]) :
    ∃ w', (Instr.storeAt E (.pointer (some p)) u).run P w = .ok () w' ∧ Mem S w0 w' (L.set i ⟨T, k, v, n, xs.set c u⟩) := by
  have hown : w.ownsRow 0 T k v n xs := hM.get i hr
  obtain ⟨bl, off, n', c', rfl, rfl⟩ := hp
  rcases hown.2 with ⟨e, _⟩ | ⟨g, cap, cur, e, _, hg, hn, _, hsz, ht⟩
  · cases e
  · simp only [Value.slice.injEq, Option.some.injEq, Addr.mk.injEq, and_true] at e
    obtain ⟨⟨rfl, rfl⟩, rfl, rfl⟩ := e
    have hst := hown.stored c u
    have hcell := hown.cellAt c (by omega)
    have hfr := hown.frozenAt c
    have hxs : xs[c]? = some (xs[c]'(by rw [hown.1]; omega)) := List.getElem?_eq_getElem _
    rw [hxs] at hcell
    refine ⟨_, ?_, hM.grow i hr (.inr rfl) (row := (Value.slice (some ⟨bl, 0, none⟩) n' c').ownBlock) ?_ _ _ _ hst.1 (fun b hb => .inl hb)⟩
    · simp only [Nat.zero_add]
      simp [Instr.storeAt, Instr.sureAddr, storeVar, size_one hE1, hc, storeCells, Addr.add, run_store, hu, hcell, hfr]
    · exact hst.2

/-- a list of which a stretch is written anew -/
def splice (xs : List Value) (c : Nat) (ys : List Value) : List Value := xs.take c ++ ys ++ xs.drop (c + ys.length)
theorem c_stores {m : Nat} (hE : Agged P E m) (hM : Mem S w0 w L) (i : Nat) {v : Value} {n : Nat} {xs : List Value} (hr : L[i]? = some ⟨T, k, v, n, xs⟩) {c : Nat} {p : Addr} (hp : Cel v c p) {ys : List Value} (hy : ys.length = m) (hj : c + m ≤ n * k)
    (hu : ∀ u ∈ ys, u.oneCell' = true) :
    ∃ w', (Instr.storeAt E (.pointer (some p)) (.agg ys.toArray)).run P w = .ok () w' ∧ Mem S w0 w' (L.set i ⟨T, k, v, n, splice xs c ys⟩) := by
  have hown : w.ownsRow 0 T k v n xs := hM.get i hr
  obtain ⟨bl, off, n', c', rfl, rfl⟩ := hp
  rcases hown.2 with ⟨e, _⟩ | ⟨g, cap, cur, e, hb, hg, hn, hcm, hsz, ht⟩
  · cases e
  · simp only [Value.slice.injEq, Option.some.injEq, Addr.mk.injEq, and_true] at e
    obtain ⟨⟨rfl, rfl⟩, rfl, rfl⟩ := e
    have hnk : n' * k ≤ c' * k := Nat.mul_le_mul_right k hn
    have hst := run_storeCells_at (P := P) bl c T ys 0 cur w hg (by omega) hu
    refine ⟨w.setRow bl (cur.toList.take (c + 0) ++ ys ++ cur.toList.drop (c + 0 + ys.length)).toArray, ?_, hM.grow i hr (.inr rfl) (row := (Value.slice (some ⟨bl, 0, none⟩) n' c').ownBlock) ?_ _ _ _ ?_ (fun b hb => .inl hb)⟩
    · simp only [Nat.zero_add]
      have e1 : (Value.agg ys.toArray).cells.size = m := by simpa [Value.cells] using hy
      have e2 : (Value.agg ys.toArray).cells.toList = ys := by simp [Value.cells]
      simp only [Instr.storeAt, Instr.sureAddr, storeVar, Sem.run_bind, Sem.run_pure, Result.andThen_ok, agged_size hE, e1, e2, ne_eq, not_true_eq_false, if_false]
      exact hst
    · exact ⟨rfl, rfl, rfl, by simp, fun q _ hq => setRow_other w bl q _ (fun e => hq (by simp [Value.ownBlock, e]))⟩
    · have hlen : (cur.toList.take (c + 0) ++ ys ++ cur.toList.drop (c + 0 + ys.length)).length = c' * k := by
        simp [hsz]; omega
      refine ⟨?_, .inr ⟨bl, c', _, rfl, Nat.zero_le _, setRow_heap w bl cur _ T _ hg, hn, hcm, by simpa using hlen, ?_⟩⟩
      · have := hown.1
        simp only [splice, List.length_append, List.length_take, List.length_drop]
        omega
      · rw [← ht]
        simp only [Nat.add_zero, splice, List.take_append, List.length_append, List.length_take, List.drop_take, List.take_take, Array.length_toList]
        have a1 : min (n' * k) c = c := by omega
        have a2 : min c (n' * k) = c := by omega
        have a3 : min c cur.size = c := by omega
        have a4 : List.take (n' * k - c) ys = ys := List.take_of_length_le (by omega)
        rw [a1, a2, a3, a4]

/-- the address of a field -/
theorem f_fieldAt {fs : Array Field} {i d : Nat} {f : Field} (hS : P.underlying T = some (.struct fs)) (hf : fs[i]? = some f) (hd : f.offset = d) (hz : P.cellsOf f.type ≠ 0) (p : Addr) (W : World) :
    (Instr.fieldAt T (.pointer (some p)) i).run P W = .ok (.pointer (some (p.add d))) W := by
  have : ∃ q, P.info? f.type = some q ∧ q.size ≠ 0 := by
    unfold Program.cellsOf at hz
    cases hq : P.info? f.type with
    | none => rw [hq] at hz; simp at hz
    | some q => rw [hq] at hz; exact ⟨q, rfl, by simpa using hz⟩
  obtain ⟨q, hq, hk⟩ := this
  simp [Instr.fieldAt, run_underlying hS, hf, Instr.sureAddr, fieldPlace, sizeOf, typeInfo, hq, hk, hd]
/-- the address of an array's element -/
theorem f_arrAt {n m : Nat} (hA : P.underlying T = some (.array n E)) (hm : ∀ W, (sizeOf E).run P W = .ok m W) {i : Int} (j : Nat) (hi : i = (j : Int)) (hj : j < n) (p : Addr) (kk : IntKind) (W : World) :
    (Instr.indexAt T (.pointer (some p)) (.int kk i)).run P W = .ok (.pointer (some (p.add (j * m)))) W := by
  subst hi
  simp [Instr.indexAt, asIntOf, run_underlying hA, Instr.sureAddr, hm, hj]
end
end Go.Gw
