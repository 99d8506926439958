/-
  Slices of structs of a number and a slice of numbers. No condition beyond those that each theorem names.
-/
import Derived.Test.YtnhplkkbpmijdaaRec
import Derived.Test.YtnhplkkbpmijdaaObj
namespace Go.Gw
set_option linter.unusedVariables false
set_option linter.unusedSimpArgs false
abbrev PS := List (Int × List Int)
def zp : Int × List Int := (0, [])
def pf (L : PS) (X : Nat → Value) (j : Nat) : List Value := [.int .i64 (L.getD j zp).1, X j]
def pcells (L : PS) (X : Nat → Value) : List Value := recs (pf L X) (List.range L.length)
theorem pf_len (L : PS) (X : Nat → Value) (j : Nat) : (pf L X j).length = 2 := rfl
theorem pcells_len (L : PS) (X : Nat → Value) : (pcells L X).length = L.length * 2 := by
  unfold pcells; rw [recs_len (pf_len L X), List.length_range]
theorem range_at {n j : Nat} (h : j < n) : (List.range n).getD j 0 = j := by
  simp [List.getD_eq_getElem?_getD, h]
theorem p_at0 {L : PS} {X : Nat → Value} {j : Nat} (h : j < L.length) : (pcells L X)[j * 2 + 0]? = some (.int .i64 (L.getD j zp).1) :=
  recs_at (pf_len L X) 0 (by rw [List.length_range]; exact h) (by rw [range_at h]; rfl)
theorem p_at1 {L : PS} {X : Nat → Value} {j : Nat} (h : j < L.length) : (pcells L X)[j * 2 + 1]? = some (X j) :=
  recs_at (pf_len L X) 0 (by rw [List.length_range]; exact h) (by rw [range_at h]; rfl)
section
variable {P : Program} {w w0 : World} {S : List Nat}
theorem p_loads {E : TypeId} (hE : Agged P E 2) {v : Value} {n : Nat} {L : PS} {X : Nat → Value} (h : Rd w 2 v n (pcells L X)) {j : Nat} {p : Addr} (hp : At v 2 j p) (hj : j < L.length) :
    (Instr.loadAt E (.pointer (some p))).run P w = .ok (.agg #[.int .i64 (L.getD j zp).1, X j]) w := by
  have := r_loads hE h (pf_len L X) hp (by rw [List.length_range]; exact hj) 0
  rw [range_at hj] at this
  exact this
/-- one more -/
def updX (X : Nat → Value) (n : Nat) (x : Value) : Nat → Value := fun j => if j = n then x else X j
theorem updX_at (X : Nat → Value) (n : Nat) (x : Value) : updX X n x n = x := if_pos rfl
theorem updX_lt {X : Nat → Value} {n j : Nat} {x : Value} (h : j < n) : updX X n x j = X j := if_neg (by omega)
theorem ps_snoc_lt {L : PS} {p : Int × List Int} {j : Nat} (h : j < L.length) : (L ++ [p]).getD j zp = L.getD j zp := by
  rw [List.getD_eq_getElem?_getD, List.getD_eq_getElem?_getD, List.getElem?_append_left h]
theorem ps_snoc_at {L : PS} {p : Int × List Int} : (L ++ [p]).getD L.length zp = p := by
  rw [List.getD_eq_getElem?_getD, List.getElem?_append_right (Nat.le_refl _), Nat.sub_self]; rfl
theorem pcells_snoc (L : PS) (X : Nat → Value) (p : Int × List Int) (x : Value) : pcells L X ++ [.int .i64 p.1, x] = pcells (L ++ [p]) (updX X L.length x) := by
  unfold pcells recs
  rw [List.length_append, List.length_cons, List.length_nil, List.range_succ, List.flatMap_append]
  congr 1
  · rw [List.flatMap_def, List.flatMap_def]
    congr 1
    refine List.map_congr_left fun j hj => ?_
    rw [List.mem_range] at hj
    unfold pf
    rw [ps_snoc_lt hj, updX_lt hj]
  · simp only [List.flatMap_cons, List.flatMap_nil, List.append_nil]
    unfold pf
    rw [ps_snoc_at, updX_at]
theorem pcells_nil (X : Nat → Value) : pcells [] X = [] := rfl
/-- the rows of the inner slices from i on -/
def atR (E : TypeId) (X : Nat → Value) (L : PS) : Nat → Nat → List Row
  | _, 0 => []
  | i, m + 1 => ⟨E, 1, X i, (L.getD i zp).2.length, ivals .i64 (L.getD i zp).2⟩ :: atR E X L (i + 1) m
theorem atR_snoc' (E : TypeId) (X : Nat → Value) (L : PS) (i m : Nat) : atR E X L i (m + 1) = atR E X L i m ++ [⟨E, 1, X (i + m), (L.getD (i + m) zp).2.length, ivals .i64 (L.getD (i + m) zp).2⟩] := by
  induction m generalizing i with
  | zero => rfl
  | succ m ih =>
    show _ :: atR E X L (i + 1) (m + 1) = (_ :: atR E X L (i + 1) m) ++ _
    rw [ih (i + 1), List.cons_append, show i + 1 + m = i + (m + 1) by omega]
theorem atR_congr {E : TypeId} {X X' : Nat → Value} {L L' : PS} {i m : Nat} (h : ∀ j, i ≤ j → j < i + m → X j = X' j ∧ (L.getD j zp).2 = (L'.getD j zp).2) : atR E X L i m = atR E X' L' i m := by
  induction m generalizing i with
  | zero => rfl
  | succ m ih =>
    unfold atR
    obtain ⟨h1, h2⟩ := h i (Nat.le_refl _) (by omega)
    rw [h1, h2, ih fun j a b => h j (by omega) (by omega)]
theorem atR_snoc (E : TypeId) (X : Nat → Value) (L : PS) (p : Int × List Int) (x : Value) : atR E (updX X L.length x) (L ++ [p]) 0 (L ++ [p]).length = atR E X L 0 L.length ++ [⟨E, 1, x, p.2.length, ivals .i64 p.2⟩] := by
  rw [List.length_append, List.length_cons, List.length_nil, atR_snoc', Nat.zero_add, updX_at, ps_snoc_at]
  congr 1
  exact atR_congr fun j _ h => ⟨updX_lt (by omega), by rw [ps_snoc_lt (by omega)]⟩
theorem atR_mem {E : TypeId} {X : Nat → Value} {L : PS} {i m j : Nat} (h1 : i ≤ j) (h2 : j < i + m) : (⟨E, 1, X j, (L.getD j zp).2.length, ivals .i64 (L.getD j zp).2⟩ : Row) ∈ atR E X L i m := by
  induction m generalizing i with
  | zero => omega
  | succ m ih =>
    unfold atR
    rcases Nat.lt_or_ge i j with h | h
    · exact List.mem_cons_of_mem _ (ih (by omega) (by omega))
    · obtain rfl : i = j := by omega
      exact List.mem_cons_self ..
theorem Mem.rdm {R : List Row} {r : Row} (h : Mem S w0 w R) (hr : r ∈ R) : Rd w r.k r.v r.n r.xs := own_rd (h.owns r hr)
theorem Mem.inner {E : TypeId} {X : Nat → Value} {L : PS} {A T : List Row} {i m : Nat} (h : Mem S w0 w (A ++ (atR E X L i m ++ T))) (j : Nat) (h1 : i ≤ j) (h2 : j < i + m) : Rd w 1 (X j) (L.getD j zp).2.length (ivals .i64 (L.getD j zp).2) :=
  h.rdm (List.mem_append_right _ (List.mem_append_left _ (atR_mem h1 h2)))
theorem Mem.toTail {r : Row} {A T : List Row} (h : Mem S w0 w (r :: (A ++ T))) : Mem S w0 w (A ++ (T ++ [r])) := by
  refine h.perm ?_
  have : (r :: (A ++ T)).Perm ((A ++ T) ++ [r]) := (List.perm_append_singleton r (A ++ T)).symm
  rwa [List.append_assoc] at this
theorem Mem.swapT {A B C : List Row} (h : Mem S w0 w (A ++ (B ++ C))) : Mem S w0 w (A ++ (C ++ B)) := h.perm (List.Perm.append_left A List.perm_append_comm)
end
end Go.Gw
namespace Go.Gw
open Go.RowKit
/-- a later part of a slice, whatever the world, as long as the whole reads -/
theorem f_from2 {P : Program} {w : World} {t E k b : Nat} {z : Value} (hT : SliceT P t E k b z) {v vb : Value} {n n0 k0 : Nat} {xs xs0 : List Value} (hq : ∀ W : World, Rd W k0 vb n0 xs0 → Rd W k v n xs) (hw : Rd w k0 vb n0 xs0) {x : Int} (lo : Nat) (hx : x = (lo : Int)) (hln : lo ≤ n) :
    ∃ v', (∀ (W : World) (kk : IntKind), (Instr.sliceAt t v (some (.int kk x)) none none).run P W = .ok v' W) ∧ ∀ W : World, Rd W k0 vb n0 xs0 → Rd W k v' (n - lo) (xs.drop (lo * k)) := by
  obtain ⟨v', h1, h2, _⟩ := f_from hT (hq w hw) lo hx hln
  refine ⟨v', h1, fun W h => ?_⟩
  obtain ⟨v'', h3, h4, _⟩ := f_from hT (hq W h) lo hx hln
  have e := (h1 W .i64).symm.trans (h3 W .i64)
  simp only [Result.ok.injEq, and_true] at e
  rw [e]; exact h4
end Go.Gw
