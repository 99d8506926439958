/-
  Queries as trees: how they lie in memory, how great they are, which may be. No condition beyond those that each theorem names.
-/
import Derived.Test.YtnhplkkbpmijdaaRec
import Derived.Test.YtnhplkkbpmijdaaTokP
import Derived.Test.YtnhplkkbpmijdaaUtfL
import Derived.Test.YtnhplkkbpmijdaaPost
namespace Go.QryP
open Go.Gw Go.UtfP Go.TokP
set_option linter.unusedVariables false
set_option linter.unusedSimpArgs false
/-- a query without its parts -/
structure Hd where
  op : Int
  field : List UInt8
  text : List UInt8
  edits : Int
  exact : Int
  lo : Int
  hi : Int
deriving DecidableEq
def hz : Hd := ⟨0, [], [], 0, 0, 0, 0⟩
/-- as it lies in a slice: the parts are another slice -/
structure QN where
  h : Hd
  parts : Value
def qz : QN := ⟨hz, .slice none 0 0⟩
abbrev qn (op : Int) (field text : List UInt8) (edits ex lo hi : Int) (v : Value) : QN := ⟨⟨op, field, text, edits, ex, lo, hi⟩, v⟩
def hdC (h : Hd) : List Value := [.int .i64 h.op, .string (sb h.field), .string (sb h.text), .int .i64 h.edits, .int .i64 h.exact, .int .u64 h.lo, .int .u64 h.hi]
def qnC (x : QN) : List Value := [.int .i64 x.h.op, .string (sb x.h.field), .string (sb x.h.text), .int .i64 x.h.edits, .int .i64 x.h.exact, .int .u64 x.h.lo, .int .u64 x.h.hi, x.parts]
theorem cc {α : Type} {a : α} {l m : List α} (h : l.Sublist m) : (a :: l).Sublist (a :: m) := .cons_cons a h
theorem cn {α : Type} {a : α} {l m : List α} (h : l.Sublist m) : l.Sublist (a :: m) := .cons a h
abbrev qR (h : Hd) (v : Value) : List Value := [.int .i64 h.op, .string (sb h.field), .string (sb h.text), .int .i64 h.edits, .int .i64 h.exact, .int .u64 h.lo, .int .u64 h.hi, v]
abbrev qA (h : Hd) (v : Value) : Value := .agg #[.int .i64 h.op, .string (sb h.field), .string (sb h.text), .int .i64 h.edits, .int .i64 h.exact, .int .u64 h.lo, .int .u64 h.hi, v]
abbrev qH (h : Hd) : Value := .agg #[.int .i64 h.op, .string (sb h.field), .string (sb h.text), .int .i64 h.edits, .int .i64 h.exact, .int .u64 h.lo, .int .u64 h.hi]
abbrev qRR (h : Hd) (v : Value) (g : Hd) (u : Value) : List Value := [.int .i64 h.op, .string (sb h.field), .string (sb h.text), .int .i64 h.edits, .int .i64 h.exact, .int .u64 h.lo, .int .u64 h.hi, v, .int .i64 g.op, .string (sb g.field), .string (sb g.text), .int .i64 g.edits, .int .i64 g.exact, .int .u64 g.lo, .int .u64 g.hi, u]
abbrev qP (n : Int) (v : Value) : List Value := [.int .i64 n, .string (sb []), .string (sb []), .int .i64 0, .int .i64 0, .int .u64 0, .int .u64 0, v]
abbrev qO (n : Int) (v : Value) : Value := .agg #[.int .i64 n, .string (sb []), .string (sb []), .int .i64 0, .int .i64 0, .int .u64 0, .int .u64 0, v]
theorem qnC_len (x : QN) : (qnC x).length = 8 := rfl
inductive Q where
  | mk (h : Hd) (l : List Q)
def Q.h : Q → Hd
  | .mk h _ => h
def Q.l : Q → List Q
  | .mk _ l => l
def q0 : Q := .mk hz []
theorem Q.eta (q : Q) : Q.mk q.h q.l = q := by cases q; rfl
mutual
def sizeQ : Q → Nat
  | .mk _ l => sizeL l + 1
def sizeL : List Q → Nat
  | [] => 0
  | q :: r => sizeQ q + sizeL r
end
mutual
def deepQ : Q → Nat
  | .mk _ l => deepL l + 1
def deepL : List Q → Nat
  | [] => 0
  | q :: r => max (deepQ q) (deepL r)
end
mutual
/-- how much a query holds -/
def bulkQ : Q → Nat
  | .mk h l => bulkL l + h.field.length + h.text.length + 1
def bulkL : List Q → Nat
  | [] => 0
  | q :: r => bulkQ q + bulkL r
end
mutual
def sameQ : Q → Q → Bool
  | .mk h l, .mk g m => decide (h = g) && sameL l m
def sameL : List Q → List Q → Bool
  | [], [] => true
  | a :: l, b :: m => sameQ a b && sameL l m
  | _, _ => false
end
mutual
def fewQ : Q → Nat → Nat
  | .mk _ l, n => fewL l (n + 1)
def fewL : List Q → Nat → Nat
  | [], n => n
  | q :: r, n => if n ≤ 5000 then fewL r (fewQ q n) else n
end
theorem sizeQ_mk (h : Hd) (l : List Q) : sizeQ (.mk h l) = sizeL l + 1 := by rw [sizeQ]
theorem deepQ_mk (h : Hd) (l : List Q) : deepQ (.mk h l) = deepL l + 1 := by rw [deepQ]
theorem bulkQ_mk (h : Hd) (l : List Q) : bulkQ (.mk h l) = bulkL l + h.field.length + h.text.length + 1 := by rw [bulkQ]
theorem sameQ_mk (h g : Hd) (l m : List Q) : sameQ (.mk h l) (.mk g m) = (decide (h = g) && sameL l m) := by rw [sameQ]
theorem fewQ_mk (h : Hd) (l : List Q) (n : Nat) : fewQ (.mk h l) n = fewL l (n + 1) := by rw [fewQ]
theorem sizeL_app : ∀ (a b : List Q), sizeL (a ++ b) = sizeL a + sizeL b
  | [], b => by simp [sizeL]
  | q :: a, b => by rw [List.cons_append, sizeL, sizeL, sizeL_app a b]; omega
theorem deepL_app : ∀ (a b : List Q), deepL (a ++ b) = max (deepL a) (deepL b)
  | [], b => by simp [deepL]
  | q :: a, b => by rw [List.cons_append, deepL, deepL, deepL_app a b]; omega
theorem bulkL_app : ∀ (a b : List Q), bulkL (a ++ b) = bulkL a + bulkL b
  | [], b => by simp [bulkL]
  | q :: a, b => by rw [List.cons_append, bulkL, bulkL, bulkL_app a b]; omega
theorem bulk_pos (q : Q) : 1 ≤ bulkQ q := by cases q; rw [bulkQ_mk]; omega
theorem size_bulkL : ∀ (l : List Q), (∀ q ∈ l, sizeQ q ≤ bulkQ q ∧ deepQ q ≤ sizeQ q) → sizeL l ≤ bulkL l ∧ deepL l ≤ sizeL l
  | [], _ => by simp [sizeL, bulkL, deepL]
  | q :: l, h => by
    have h1 := h q (List.mem_cons_self ..)
    have h2 := size_bulkL l fun x hx => h x (List.mem_cons_of_mem _ hx)
    rw [sizeL, bulkL, deepL]; omega
section
variable {l : List Q} {i : Nat}
theorem tk_snoc (h : i < l.length) : l.take (i + 1) = l.take i ++ [l.getD i q0] := by
  rw [List.take_succ_eq_append_getElem h, List.getD_eq_getElem?_getD, List.getElem?_eq_getElem h]; rfl
theorem tk_all (h : ¬ i < l.length) : l.take i = l := List.take_of_length_le (by omega)
theorem size_step (h : i < l.length) : sizeL (l.take (i + 1)) = sizeL (l.take i) + sizeQ (l.getD i q0) := by rw [tk_snoc h, sizeL_app]; simp [sizeL]
theorem deep_step (h : i < l.length) : deepL (l.take (i + 1)) = max (deepL (l.take i)) (deepQ (l.getD i q0)) := by rw [tk_snoc h, deepL_app]; simp [deepL]
theorem bulk_step (h : i < l.length) : bulkL (l.take (i + 1)) = bulkL (l.take i) + bulkQ (l.getD i q0) := by rw [tk_snoc h, bulkL_app]; simp [bulkL]
theorem bulk_take (l : List Q) (i : Nat) : bulkL (l.take i) ≤ bulkL l := by
  have := bulkL_app (l.take i) (l.drop i)
  rw [List.take_append_drop] at this; omega
theorem bulk_len : ∀ (l : List Q), l.length ≤ bulkL l
  | [] => Nat.zero_le _
  | q :: l => by have := bulk_len l; have := bulk_pos q; rw [List.length_cons, bulkL]; omega
theorem bulk_kid (h : i < l.length) : bulkQ (l.getD i q0) ≤ bulkL l := by
  have h1 := bulk_step h
  have h2 := bulk_take l (i + 1)
  omega
end
theorem size_bulk : ∀ (n : Nat) (q : Q), bulkQ q ≤ n → sizeQ q ≤ bulkQ q ∧ deepQ q ≤ sizeQ q
  | 0, q, h => by have := bulk_pos q; omega
  | n + 1, .mk g l, h => by
    rw [bulkQ_mk] at h
    have := size_bulkL l fun q hq => by
      obtain ⟨j, hj, rfl⟩ := List.getElem_of_mem hq
      have h1 := bulk_kid (l := l) hj
      rw [List.getD_eq_getElem?_getD, List.getElem?_eq_getElem hj] at h1
      exact size_bulk n l[j] (by have h2 : bulkQ l[j] ≤ bulkL l := h1; omega)
    rw [sizeQ_mk, bulkQ_mk, deepQ_mk]; omega
theorem size_le (q : Q) : sizeQ q ≤ bulkQ q ∧ deepQ q ≤ sizeQ q := size_bulk _ q (Nat.le_refl _)
theorem sizeL_le (l : List Q) : sizeL l ≤ bulkL l ∧ deepL l ≤ sizeL l := size_bulkL l fun q _ => size_le q
/-! ### few -/
theorem few_step {l : List Q} {i n : Nat} (h : i < l.length) (hn : n ≤ 5000) : fewL (l.drop i) n = fewL (l.drop (i + 1)) (fewQ (l.getD i q0) n) := by
  rw [List.drop_eq_getElem_cons h, fewL, if_pos hn, List.getD_eq_getElem?_getD, List.getElem?_eq_getElem h]; rfl
theorem few_stop {l : List Q} {i n : Nat} (h : ¬ i < l.length ∨ ¬ n ≤ 5000) : fewL (l.drop i) n = n := by
  by_cases g : i < l.length
  · rw [List.drop_eq_getElem_cons g, fewL, if_neg (by omega)]
  · rw [List.drop_of_length_le (by omega), fewL]
theorem few_bdL : ∀ (l : List Q) (n : Nat), (∀ q ∈ l, ∀ n, n ≤ fewQ q n ∧ fewQ q n ≤ n + sizeQ q) → n ≤ fewL l n ∧ fewL l n ≤ n + sizeL l
  | [], n, _ => by simp [fewL]
  | q :: l, n, h => by
    rw [fewL, sizeL]
    split
    · have h1 := h q (List.mem_cons_self ..) n
      have h2 := few_bdL l (fewQ q n) fun x hx => h x (List.mem_cons_of_mem _ hx)
      omega
    · omega
theorem few_bdQ : ∀ (m : Nat) (q : Q), bulkQ q ≤ m → ∀ n, n ≤ fewQ q n ∧ fewQ q n ≤ n + sizeQ q
  | 0, q, h => by have := bulk_pos q; omega
  | m + 1, .mk g l, h => fun n => by
    rw [bulkQ_mk] at h
    have := few_bdL l (n + 1) fun q hq => by
      obtain ⟨j, hj, rfl⟩ := List.getElem_of_mem hq
      have h1 := bulk_kid (l := l) hj
      rw [List.getD_eq_getElem?_getD, List.getElem?_eq_getElem hj] at h1
      exact few_bdQ m l[j] (by have h2 : bulkQ l[j] ≤ bulkL l := h1; omega)
    rw [fewQ_mk, sizeQ_mk]; omega
theorem few_bd (q : Q) (n : Nat) : n ≤ fewQ q n ∧ fewQ q n ≤ n + sizeQ q := few_bdQ _ q (Nat.le_refl _) n
/-! ### alike -/
theorem sameL_len : ∀ {a b : List Q}, sameL a b = true → a.length = b.length
  | [], [], _ => rfl
  | [], _ :: _, h => by simp [sameL] at h
  | _ :: _, [], h => by simp [sameL] at h
  | a :: l, b :: m, h => by
    rw [sameL, Bool.and_eq_true] at h
    rw [List.length_cons, List.length_cons, sameL_len h.2]
theorem same_no {a b : List Q} (h : ¬ a.length = b.length) : sameL a b = false := by
  cases e : sameL a b with
  | false => rfl
  | true => exact absurd (sameL_len e) h
theorem same_stepL {a b : List Q} {i : Nat} (h : i < a.length) (h2 : i < b.length) : sameL (a.drop i) (b.drop i) = (sameQ (a.getD i q0) (b.getD i q0) && sameL (a.drop (i + 1)) (b.drop (i + 1))) := by
  rw [List.drop_eq_getElem_cons h, List.drop_eq_getElem_cons h2, sameL, List.getD_eq_getElem?_getD, List.getElem?_eq_getElem h, List.getD_eq_getElem?_getD, List.getElem?_eq_getElem h2]; rfl
theorem same_end {a b : List Q} {i : Nat} (h : ¬ i < a.length) (h2 : a.length = b.length) : sameL (a.drop i) (b.drop i) = true := by
  rw [List.drop_of_length_le (by omega), List.drop_of_length_le (by omega), sameL]
theorem same_reflL : ∀ (l : List Q), (∀ q ∈ l, sameQ q q = true) → sameL l l = true
  | [], _ => by rw [sameL]
  | q :: l, h => by rw [sameL, h q (List.mem_cons_self ..), same_reflL l fun x hx => h x (List.mem_cons_of_mem _ hx)]; rfl
theorem same_reflN : ∀ (m : Nat) (q : Q), bulkQ q ≤ m → sameQ q q = true
  | 0, q, h => by have := bulk_pos q; omega
  | m + 1, .mk g l, h => by
    rw [bulkQ_mk] at h
    rw [sameQ_mk, same_reflL l fun q hq => by
      obtain ⟨j, hj, rfl⟩ := List.getElem_of_mem hq
      have h1 := bulk_kid (l := l) hj
      rw [List.getD_eq_getElem?_getD, List.getElem?_eq_getElem hj] at h1
      exact same_reflN m l[j] (by have h2 : bulkQ l[j] ≤ bulkL l := h1; omega)]
    simp
theorem same_refl (q : Q) : sameQ q q = true := same_reflN _ q (Nat.le_refl _)
theorem same_set : ∀ {l : List Q} {i : Nat} (r : Q), i < l.length → sameL (l.set i r) l = sameQ r (l.getD i q0)
  | [], i, r, h => by simp at h
  | q :: l, 0, r, _ => by
    rw [List.set_cons_zero, sameL, same_reflL l fun x _ => same_refl x]; simp
  | q :: l, i + 1, r, h => by
    rw [List.set_cons_succ, sameL, same_refl q, same_set r (by simpa using h)]; simp
/-! ### which may be -/
def nameP (s : List UInt8) : Bool := decide (1 ≤ s.length ∧ s.length ≤ 16) && s.all fun c => decide (97 ≤ c.toNat ∧ c.toNat ≤ 122 ∨ 48 ≤ c.toNat ∧ c.toNat ≤ 57 ∨ c.toNat = 95)
/-- the folded characters of a pattern: the error -/
def letP (s marks : List UInt8) : Int :=
  if decE s ≠ 0 then decE s else if 16 < (foldL s).length then 4 else if (foldL s).length = 0 then 20
  else if (foldL s).all (fun c => letter c || marks.any fun m => c == (m.toNat : Int)) = true then 0 else 20
def letN (s marks : List UInt8) : Nat := if letP s marks = 0 then (foldL s).length else 0
def letL (s marks : List UInt8) : List Int := if letP s marks = 0 then foldL s else []
/-- are all but field and parts empty, as far as they must be? -/
def nothP (h : Hd) (t e n : Bool) : Bool := (t || decide (h.text = [])) && (e || (decide (h.edits = 0) && decide (h.exact = 0))) && (n || (decide (h.lo = 0) && decide (h.hi = 0)))
/-- may the text stand behind the operator? -/
def WP (h : Hd) : Prop := (h.op = 1 ∧ termE h.text = 0) ∨ (h.op = 5 ∧ tokE h.text = 0 ∧ 1 ≤ (tokL h.text).length ∧ (tokL h.text).length ≤ 16) ∨ (h.op = 3 ∧ letP h.text [42, 63] = 0) ∨ (¬ h.op = 1 ∧ ¬ h.op = 5 ∧ ¬ h.op = 3 ∧ letP h.text [] = 0 ∧ 0 ≤ h.edits ∧ h.edits ≤ 2 ∧ 0 ≤ h.exact ∧ h.exact ≤ ((foldL h.text).length : Int))
instance (h : Hd) : Decidable (WP h) := by unfold WP; infer_instance
def wordsP (h : Hd) : Bool := decide (WP h)
/-- a part, without its own parts -/
def nodeP (h : Hd) (n : Nat) : Bool :=
  if h.op = 8 ∨ h.op = 7 then decide (2 ≤ n) && decide (h.field = []) && nothP h false false false
  else if h.op = 9 then decide (n = 1) && decide (h.field = []) && nothP h false false false
  else if h.op = 10 then decide (n = 0) && decide (h.field = []) && nothP h false false false
  else if 0 < n ∨ nameP h.field = false then false
  else if h.op = 1 then decide (termE h.text = 0) && nothP h true false false
  else if h.op = 2 then decide (0 < letN h.text []) && nothP h true false false
  else if h.op = 3 then decide (0 < letN h.text [42, 63]) && nothP h true false false
  else if h.op = 4 then decide (0 < letN h.text [] ∧ 0 ≤ h.edits ∧ h.edits ≤ 2 ∧ 0 ≤ h.exact ∧ h.exact ≤ (letN h.text [] : Int)) && nothP h true true false
  else if h.op = 5 then decide (tokE h.text = 0 ∧ 1 ≤ (tokL h.text).length ∧ (tokL h.text).length ≤ 16) && nothP h true false false
  else if h.op = 6 then nothP h false false true
  else false
mutual
def rightQ : Q → Bool
  | .mk h l => rightL l && nodeP h l.length
def rightL : List Q → Bool
  | [] => true
  | q :: r => rightQ q && rightL r
end
theorem rightQ_mk (h : Hd) (l : List Q) : rightQ (.mk h l) = (rightL l && nodeP h l.length) := by rw [rightQ]
theorem rightL_app : ∀ (a b : List Q), rightL (a ++ b) = (rightL a && rightL b)
  | [], b => by rw [List.nil_append, rightL]; rfl
  | q :: a, b => by rw [List.cons_append, rightL, rightL, rightL_app a b, Bool.and_assoc]
theorem right_step {l : List Q} {i : Nat} (h : i < l.length) : rightL (l.take (i + 1)) = (rightL (l.take i) && rightQ (l.getD i q0)) := by rw [tk_snoc h, rightL_app]; simp [rightL]
theorem right_bad {l : List Q} {i : Nat} (h : i < l.length) (hr : rightQ (l.getD i q0) = false) : rightL l = false := by
  have h1 := rightL_app (l.take (i + 1)) (l.drop (i + 1))
  rw [List.take_append_drop, right_step h, hr] at h1
  rw [h1]; simp
def checkQ (q : Q) : Int := if 64 < sizeQ q ∨ 8 < deepQ q then 4 else if rightQ q = true then 0 else 20
/-! ### how they lie in memory -/
inductive RdQ (w : World) : Q → Value → Prop
  | mk (h : Hd) (l : List Q) (v : Value) (L : List QN) (hr : Rd w 8 v L.length (recs qnC L)) (hl : L.length = l.length) (hh : ∀ j, j < l.length → (L.getD j qz).h = (l.getD j q0).h) (hs : ∀ j, j < l.length → RdQ w (l.getD j q0) (L.getD j qz).parts) : RdQ w (.mk h l) v
theorem RdQ.inv {w : World} {q : Q} {v : Value} (h : RdQ w q v) : ∃ L : List QN, Rd w 8 v L.length (recs qnC L) ∧ L.length = q.l.length ∧ (∀ j, j < q.l.length → (L.getD j qz).h = (q.l.getD j q0).h) ∧ ∀ j, j < q.l.length → RdQ w (q.l.getD j q0) (L.getD j qz).parts := by
  cases h with
  | mk h l v L hr hl hh hs => exact ⟨L, hr, hl, hh, hs⟩
theorem RdQ.map {w w' : World} (h : ∀ (v : Value) (n : Nat) (xs : List Value), Rd w 8 v n xs → Rd w' 8 v n xs) {q : Q} {v : Value} (hq : RdQ w q v) : RdQ w' q v := by
  induction hq with
  | mk g l v L hr hl hh hs ih => exact .mk g l v L (h _ _ _ hr) hl hh ih
theorem RdQ.kept {w w' : World} {q : Q} {v : Value} (h : RdQ w q v) (hk : Kept [] w w') : RdQ w' q v := h.map fun _ _ _ hr => hr.kept0 hk
theorem RdQ.one {w : World} {q : Q} {v : Value} (h : RdQ w q v) : v.oneCell' = true ∧ v.cells = #[v] ∧ v.cells.toList = [v] := by
  obtain ⟨L, hr, _⟩ := h.inv
  exact ⟨rd_one hr, rd_cells hr, rd_cellsl hr⟩
/-- the rows that hold a tree's parts -/
inductive QT (T : List Row) : Q → Value → Prop
  | mk (h : Hd) (l : List Q) (v : Value) (E : TypeId) (L : List QN) (hm : (⟨E, 8, v, L.length, recs qnC L⟩ : Row) ∈ T) (hl : L.length = l.length) (hh : ∀ j, j < l.length → (L.getD j qz).h = (l.getD j q0).h) (hs : ∀ j, j < l.length → QT T (l.getD j q0) (L.getD j qz).parts) : QT T (.mk h l) v
theorem QT.sub {T T' : List Row} (h : ∀ r, r ∈ T → r ∈ T') {q : Q} {v : Value} (hq : QT T q v) : QT T' q v := by
  induction hq with
  | mk g l v E L hm hl hh hs ih => exact .mk g l v E L (h _ hm) hl hh ih
theorem QT.rd {T R : List Row} {S : List Nat} {w0 w : World} (hM : Mem S w0 w R) (h : ∀ r, r ∈ T → r ∈ R) {q : Q} {v : Value} (hq : QT T q v) : RdQ w q v := by
  induction hq with
  | mk g l v E L hm hl hh hs ih => exact .mk g l v L (hM.rdm (h _ hm)) hl hh ih
end Go.QryP
namespace Go.QryP
open Go.Gw Go.UtfP Go.TokP
set_option linter.unusedVariables false
set_option linter.unusedSimpArgs false
theorem hd_ext {a b : Hd} (h1 : a.op = b.op) (h2 : a.field = b.field) (h3 : a.text = b.text) (h4 : a.edits = b.edits) (h5 : a.exact = b.exact) (h6 : a.lo = b.lo) (h7 : a.hi = b.hi) : a = b := by
  cases a; cases b; simp only at h1 h2 h3 h4 h5 h6 h7; subst h1 h2 h3 h4 h5 h6 h7; rfl
theorem flat_eq (a b : Hd) : ((a.op == b.op) && (((sb a.field).toList == (sb b.field).toList) && (((sb a.text).toList == (sb b.text).toList) && ((a.edits == b.edits) && ((a.exact == b.exact) && ((a.lo == b.lo) && ((a.hi == b.hi) && true))))))) = decide (a = b) := by
  rw [sb_toList, sb_toList, sb_toList, sb_toList]
  rw [Bool.eq_iff_iff]
  cases a; cases b
  simp
theorem same_eq (a b : Q) : sameQ a b = (decide (a.h = b.h) && sameL a.l b.l) := by cases a; cases b; rw [sameQ_mk]; rfl
theorem same_ne {a b : Q} (h : ¬ a.h = b.h) : sameQ a b = false := by rw [same_eq, decide_eq_false h]; rfl
theorem same_nl {a b : Q} (h : ¬ a.l.length = b.l.length) : sameQ a b = false := by rw [same_eq, same_no h, Bool.and_false]
theorem same_go {a b : Q} (h : a.h = b.h) : sameL (a.l.drop 0) (b.l.drop 0) = sameQ a b := by rw [same_eq, decide_eq_true h, List.drop_zero, List.drop_zero]; rfl
theorem few_go (q : Q) (n : Nat) : fewL (q.l.drop 0) (n + 1) = fewQ q n := by cases q; rw [fewQ_mk]; rfl
end Go.QryP
namespace Go.QryP
open Go.Gw Go.UtfP Go.TokP
set_option linter.unusedVariables false
set_option linter.unusedSimpArgs false
def okI (c : Int) : Prop := 97 ≤ c ∧ c ≤ 122 ∨ 48 ≤ c ∧ c ≤ 57 ∨ c = 95
theorem okI_iff {s : List UInt8} {j : Nat} (h : j < s.length) : okI (bl s j) ↔ (97 ≤ s[j].toNat ∧ s[j].toNat ≤ 122 ∨ 48 ≤ s[j].toNat ∧ s[j].toNat ≤ 57 ∨ s[j].toNat = 95) := by
  unfold okI bl
  rw [List.getD_eq_getElem?_getD, List.getElem?_eq_getElem h]
  simp only [Option.getD_some]
  omega
theorem name_yes {s : List UInt8} (h : 1 ≤ s.length ∧ s.length ≤ 16) (hz : ∀ j, j < s.length → okI (bl s j)) : nameP s = true := by
  unfold nameP
  rw [decide_eq_true h, Bool.true_and, List.all_eq_true]
  intro c hc
  obtain ⟨j, hj, rfl⟩ := List.getElem_of_mem hc
  exact decide_eq_true ((okI_iff hj).1 (hz j hj))
theorem name_no {s : List UInt8} {j : Nat} (h : j < s.length) (hn : ¬ okI (bl s j)) : nameP s = false := by
  cases e : nameP s with
  | false => rfl
  | true =>
    unfold nameP at e
    rw [Bool.and_eq_true, List.all_eq_true] at e
    exact absurd ((okI_iff h).2 (of_decide_eq_true (e.2 s[j] (List.getElem_mem h)))) hn
theorem name_len {s : List UInt8} (h : ¬ (1 ≤ s.length ∧ s.length ≤ 16)) : nameP s = false := by unfold nameP; rw [decide_eq_false h]; rfl
/-- a letter, or one of the first k marks -/
def okM (c : Int) (marks : List UInt8) (k : Nat) : Bool := letter c || (marks.take k).any fun m => c == (m.toNat : Int)
theorem okM_zero (c : Int) (marks : List UInt8) : okM c marks 0 = letter c := by unfold okM; simp
theorem okM_step {c : Int} {marks : List UInt8} {k : Nat} (h : k < marks.length) : okM c marks (k + 1) = (okM c marks k || c == bl marks k) := by
  unfold okM bl
  rw [List.take_succ_eq_append_getElem h, List.any_append, List.getD_eq_getElem?_getD, List.getElem?_eq_getElem h]
  simp [Bool.or_assoc]
theorem okM_all {c : Int} {marks : List UInt8} {k : Nat} (h : ¬ k < marks.length) : okM c marks k = (letter c || marks.any fun m => c == (m.toNat : Int)) := by unfold okM; rw [List.take_of_length_le (by omega)]
section
variable {s marks : List UInt8}
theorem let_err (h : decE s ≠ 0) : letP s marks = decE s ∧ letL s marks = [] := by
  have e : letP s marks = decE s := by unfold letP; rw [if_pos h]
  exact ⟨e, by unfold letL; rw [e, if_neg h]⟩
theorem let_long (h : decE s = 0) (h2 : 16 < (foldL s).length) : letP s marks = 4 ∧ letL s marks = [] := by
  have e : letP s marks = 4 := by unfold letP; rw [if_neg (by omega), if_pos h2]
  exact ⟨e, by unfold letL; rw [e]; rfl⟩
theorem let_none (h : decE s = 0) (h2 : (foldL s).length = 0) : letP s marks = 20 ∧ letL s marks = [] := by
  have e : letP s marks = 20 := by unfold letP; rw [if_neg (by omega), if_neg (by omega), if_pos h2]
  exact ⟨e, by unfold letL; rw [e]; rfl⟩
theorem let_bad (h : decE s = 0) (h2 : ¬ 16 < (foldL s).length) {i : Nat} (hi : i < (foldL s).length) (hn : okM ((foldL s).getD i 0) marks marks.length = false) : letP s marks = 20 ∧ letL s marks = [] := by
  have e : letP s marks = 20 := by
    unfold letP
    rw [if_neg (by omega), if_neg h2, if_neg (by omega), if_neg]
    intro z
    rw [List.all_eq_true] at z
    have := z ((foldL s).getD i 0) (by rw [List.getD_eq_getElem?_getD, List.getElem?_eq_getElem hi]; exact List.getElem_mem hi)
    rw [okM_all (by omega)] at hn
    rw [hn] at this; cases this
  exact ⟨e, by unfold letL; rw [e]; rfl⟩
theorem let_good (h : decE s = 0) (h2 : ¬ 16 < (foldL s).length) (h3 : ¬ (foldL s).length = 0) (hz : ∀ j, j < (foldL s).length → okM ((foldL s).getD j 0) marks marks.length = true) : letP s marks = 0 ∧ letL s marks = foldL s := by
  have e : letP s marks = 0 := by
    unfold letP
    rw [if_neg (by omega), if_neg h2, if_neg h3, if_pos]
    rw [List.all_eq_true]
    intro c hc
    obtain ⟨j, hj, rfl⟩ := List.getElem_of_mem hc
    have := hz j hj
    rwa [okM_all (by omega), List.getD_eq_getElem?_getD, List.getElem?_eq_getElem hj] at this
  exact ⟨e, by unfold letL; rw [e]; rfl⟩
theorem let_pos (h : letP s marks = 0) : 0 < (foldL s).length ∧ letN s marks = (foldL s).length ∧ letL s marks = foldL s := by
  refine ⟨?_, by unfold letN; rw [if_pos h], by unfold letL; rw [if_pos h]⟩
  unfold letP at h
  split at h
  · contradiction
  · split at h
    · cases h
    · split at h
      · cases h
      · omega
theorem letN_no (h : ¬ letP s marks = 0) : letN s marks = 0 := by unfold letN; rw [if_neg h]
theorem letN_iff : 0 < letN s marks ↔ letP s marks = 0 := by
  by_cases h : letP s marks = 0
  · have := let_pos h; rw [this.2.1]; exact ⟨fun _ => h, fun _ => this.1⟩
  · rw [letN_no h]; exact ⟨fun z => absurd z (Nat.lt_irrefl _), fun z => absurd z h⟩
end
section
variable {h : Hd} {n : Nat}
theorem noth_t (h : Hd) : ((h.op == h.op) && (((sb h.field).toList == (sb h.field).toList) && (((sb h.text).toList == (sb h.text).toList) && ((h.edits == 0) && ((h.exact == 0) && ((h.lo == 0) && ((h.hi == 0) && true))))))) = nothP h true false false := by
  rw [Bool.eq_iff_iff]; simp [nothP, and_assoc]
theorem noth_f (h : Hd) : ((h.op == h.op) && (((sb h.field).toList == (sb h.field).toList) && (((sb h.text).toList == (sb h.text).toList) && ((h.edits == h.edits) && ((h.exact == h.exact) && ((h.lo == 0) && ((h.hi == 0) && true))))))) = nothP h true true false := by
  rw [Bool.eq_iff_iff]; simp [nothP, and_assoc]
theorem noth_r (h : Hd) : ((h.op == h.op) && (((sb h.field).toList == (sb h.field).toList) && (((sb h.text).toList == (sb []).toList) && ((h.edits == 0) && ((h.exact == 0) && ((h.lo == h.lo) && ((h.hi == h.hi) && true))))))) = nothP h false false true := by
  rw [Bool.eq_iff_iff]; simp [nothP, and_assoc, sb_toList]
theorem noth_b (h : Hd) : ((h.op == h.op) && (((sb h.field).toList == (sb []).toList) && (((sb h.text).toList == (sb []).toList) && ((h.edits == 0) && ((h.exact == 0) && ((h.lo == 0) && ((h.hi == 0) && true))))))) = (decide (h.field = []) && nothP h false false false) := by
  rw [Bool.eq_iff_iff]; simp [nothP, and_assoc, sb_toList]
theorem node_join (ho : h.op = 8 ∨ h.op = 7) : nodeP h n = (decide (2 ≤ n) && decide (h.field = []) && nothP h false false false) := by unfold nodeP; rw [if_pos ho]
theorem node_not (ho : h.op = 9) : nodeP h n = (decide (n = 1) && decide (h.field = []) && nothP h false false false) := by unfold nodeP; rw [if_neg (by omega), if_pos ho]
theorem node_all (ho : h.op = 10) : nodeP h n = (decide (n = 0) && decide (h.field = []) && nothP h false false false) := by unfold nodeP; rw [if_neg (by omega), if_neg (by omega), if_pos ho]
theorem node_else (ho : ¬ (1 ≤ h.op ∧ h.op ≤ 10)) : nodeP h n = false := by
  unfold nodeP
  rw [if_neg (by omega), if_neg (by omega), if_neg (by omega)]
  split
  · rfl
  · rw [if_neg (by omega), if_neg (by omega), if_neg (by omega), if_neg (by omega), if_neg (by omega), if_neg (by omega)]
theorem node_name (ho : 1 ≤ h.op ∧ h.op ≤ 6) (hn : nameP h.field = false) : nodeP h n = false := by
  unfold nodeP; rw [if_neg (by omega), if_neg (by omega), if_neg (by omega), if_pos (.inr hn)]
theorem node_many (ho : 1 ≤ h.op ∧ h.op ≤ 6) (hn : 0 < n) : nodeP h n = false := by
  unfold nodeP; rw [if_neg (by omega), if_neg (by omega), if_neg (by omega), if_pos (.inl hn)]
theorem node_range (ho : h.op = 6) (hn : nameP h.field = true) (h0 : n = 0) : nodeP h n = nothP h false false true := by
  unfold nodeP; rw [if_neg (by omega), if_neg (by omega), if_neg (by omega), if_neg (by rw [hn]; simp; omega), if_neg (by omega), if_neg (by omega), if_neg (by omega), if_neg (by omega), if_neg (by omega), if_pos ho]
theorem noth_no (he : ¬ (h.edits = 0 ∧ h.exact = 0)) (t m : Bool) : nothP h t false m = false := by
  unfold nothP
  by_cases e : h.edits = 0
  · rw [decide_eq_true e, decide_eq_false (fun z => he ⟨e, z⟩)]; simp
  · rw [decide_eq_false e]; simp
theorem node_word (ho : 1 ≤ h.op ∧ h.op ≤ 5) (hn : nameP h.field = true) (hw : WP h) (h0 : n = 0) : nodeP h n = if h.op = 4 then nothP h true true false else nothP h true false false := by
  unfold nodeP
  rw [if_neg (by omega), if_neg (by omega), if_neg (by omega), if_neg (by rw [hn]; simp; omega)]
  unfold WP at hw
  have l1 := @letN_iff h.text []
  have l2 := @letN_iff h.text [42, 63]
  by_cases o1 : h.op = 1
  · rw [if_pos o1, if_neg (by omega), decide_eq_true (by omega)]; rfl
  · rw [if_neg o1]
    by_cases o2 : h.op = 2
    · rw [if_pos o2, if_neg (by omega), decide_eq_true (by rw [l1]; omega)]; rfl
    · rw [if_neg o2]
      by_cases o3 : h.op = 3
      · rw [if_pos o3, if_neg (by omega), decide_eq_true (by rw [l2]; omega)]; rfl
      · rw [if_neg o3]
        by_cases o4 : h.op = 4
        · have hz : letP h.text [] = 0 := by omega
          have hp := let_pos hz
          rw [if_pos o4, if_pos o4, decide_eq_true (by rw [l1, hp.2.1]; omega)]; rfl
        · rw [if_neg o4, if_neg o4, if_pos (by omega), decide_eq_true (by omega)]; rfl
theorem node_noword (ho : 1 ≤ h.op ∧ h.op ≤ 5) (hw : ¬ WP h) : nodeP h n = false := by
  unfold nodeP
  rw [if_neg (by omega), if_neg (by omega), if_neg (by omega)]
  split
  · rfl
  · unfold WP at hw
    have l1 := @letN_iff h.text []
    have l2 := @letN_iff h.text [42, 63]
    by_cases o1 : h.op = 1
    · rw [if_pos o1, decide_eq_false (by omega)]; rfl
    · rw [if_neg o1]
      by_cases o2 : h.op = 2
      · rw [if_pos o2]
        by_cases hz : letP h.text [] = 0
        · rw [noth_no (by omega), Bool.and_false]
        · rw [decide_eq_false (by rw [l1]; exact hz)]; rfl
      · rw [if_neg o2]
        by_cases o3 : h.op = 3
        · rw [if_pos o3, decide_eq_false (by rw [l2]; omega)]; rfl
        · rw [if_neg o3]
          by_cases o4 : h.op = 4
          · rw [if_pos o4, decide_eq_false]; rfl
            rintro ⟨z1, z2⟩
            have hz := l1.1 z1
            have hp := let_pos hz
            rw [hp.2.1] at z2
            omega
          · rw [if_neg o4, if_pos (by omega), decide_eq_false (by omega)]; rfl
end
theorem right_of {q : Q} (h : rightL q.l = true) : rightQ q = nodeP q.h q.l.length := by cases q with | mk g l => rw [rightQ_mk, (show rightL l = true from h)]; rfl
theorem right_not {q : Q} (h : rightL q.l = false) : rightQ q = false := by cases q with | mk g l => rw [rightQ_mk, (show rightL l = false from h)]; rfl
theorem check_big {q : Q} (h : 64 < sizeQ q ∨ 8 < deepQ q) : checkQ q = 4 := if_pos h
theorem check_bad {q : Q} (h : ¬ (64 < sizeQ q ∨ 8 < deepQ q)) (hr : rightQ q = false) : checkQ q = 20 := by unfold checkQ; rw [if_neg h, hr]; rfl
theorem check_good {q : Q} (h : ¬ (64 < sizeQ q ∨ 8 < deepQ q)) (hr : rightQ q = true) : checkQ q = 0 := by unfold checkQ; rw [if_neg h, hr]; rfl
end Go.QryP
namespace Go.QryP
open Go.Gw Go.UtfP Go.TokP
set_option linter.unusedVariables false
set_option linter.unusedSimpArgs false
theorem qn_left {M : List QN} {x : QN} {j : Nat} (h : j < M.length) : (M ++ [x]).getD j qz = M.getD j qz := by
  rw [List.getD_eq_getElem?_getD, List.getElem?_append_left h, ← List.getD_eq_getElem?_getD]
theorem qn_right {M : List QN} {x : QN} {i : Nat} (h : M.length = i) : (M ++ [x]).getD i qz = x := by
  subst h; rw [List.getD_eq_getElem?_getD, List.getElem?_append_right (Nat.le_refl _)]; simp
theorem QT.whole {q : Q} {u : Value} {E : TypeId} {M : List QN} {T : List Row} (h1 : M.length = q.l.length) (h2 : ∀ j, j < q.l.length → (M.getD j qz).h = (q.l.getD j q0).h) (h3 : ∀ j, j < q.l.length → QT T (q.l.getD j q0) (M.getD j qz).parts) : QT (⟨E, 8, u, M.length, recs qnC M⟩ :: T) q u := by
  cases q with
  | mk g l => exact .mk g l u E M (List.mem_cons_self ..) h1 h2 (fun j hj => (h3 j hj).sub fun r hr => List.mem_cons_of_mem _ hr)
theorem Mem.joinT {S : List Nat} {w0 w w' : World} {A T R : List Row} (h : Mem S w0 w (A ++ T)) (c : Mem [] w w' R) : Mem S w0 w' (A ++ (R ++ T)) := (h.join c).perm (List.perm_append_comm_assoc _ _ _)
theorem Mem.join0 {S : List Nat} {w0 w w' : World} {A R : List Row} (h : Mem S w0 w A) (c : Mem [] w w' R) : Mem S w0 w' (A ++ R) := (h.join c).perm List.perm_append_comm
end Go.QryP
namespace Go.QryP
open Go.Gw Go.UtfP Go.TokP
set_option linter.unusedVariables false
set_option linter.unusedSimpArgs false
section
variable {h : Hd} {n : Nat}
theorem node_out (ho : ¬ (h.op = 8 ∨ h.op = 7) ∧ ¬ h.op = 9 ∧ ¬ h.op = 10) (hn : 0 < n ∨ nameP h.field = false) : nodeP h n = false := by
  unfold nodeP; rw [if_neg ho.1, if_neg ho.2.1, if_neg ho.2.2, if_pos hn]
theorem node_in (ho : 1 ≤ h.op ∧ h.op ≤ 6) (h0 : n = 0) (hn : nameP h.field = true) : nodeP h n = (if h.op = 1 then decide (termE h.text = 0) && nothP h true false false
  else if h.op = 2 then decide (0 < letN h.text []) && nothP h true false false
  else if h.op = 3 then decide (0 < letN h.text [42, 63]) && nothP h true false false
  else if h.op = 4 then decide (0 < letN h.text [] ∧ 0 ≤ h.edits ∧ h.edits ≤ 2 ∧ 0 ≤ h.exact ∧ h.exact ≤ (letN h.text [] : Int)) && nothP h true true false
  else if h.op = 5 then decide (tokE h.text = 0 ∧ 1 ≤ (tokL h.text).length ∧ (tokL h.text).length ≤ 16) && nothP h true false false
  else if h.op = 6 then nothP h false false true
  else false) := by
  unfold nodeP
  rw [if_neg (by omega), if_neg (by omega), if_neg (by omega), if_neg (by rw [hn]; simp; omega)]
theorem node_1 (ho : h.op = 1) (h0 : n = 0) (hn : nameP h.field = true) : nodeP h n = (decide (termE h.text = 0) && nothP h true false false) := by rw [node_in (by omega) h0 hn, if_pos ho]
theorem node_2 (ho : h.op = 2) (h0 : n = 0) (hn : nameP h.field = true) : nodeP h n = (decide (0 < letN h.text []) && nothP h true false false) := by rw [node_in (by omega) h0 hn, if_neg (by omega), if_pos ho]
theorem node_3 (ho : h.op = 3) (h0 : n = 0) (hn : nameP h.field = true) : nodeP h n = (decide (0 < letN h.text [42, 63]) && nothP h true false false) := by rw [node_in (by omega) h0 hn, if_neg (by omega), if_neg (by omega), if_pos ho]
theorem node_4 (ho : h.op = 4) (h0 : n = 0) (hn : nameP h.field = true) : nodeP h n = (decide (0 < letN h.text [] ∧ 0 ≤ h.edits ∧ h.edits ≤ 2 ∧ 0 ≤ h.exact ∧ h.exact ≤ (letN h.text [] : Int)) && nothP h true true false) := by rw [node_in (by omega) h0 hn, if_neg (by omega), if_neg (by omega), if_neg (by omega), if_pos ho]
theorem node_5 (ho : h.op = 5) (h0 : n = 0) (hn : nameP h.field = true) : nodeP h n = (decide (tokE h.text = 0 ∧ 1 ≤ (tokL h.text).length ∧ (tokL h.text).length ≤ 16) && nothP h true false false) := by rw [node_in (by omega) h0 hn, if_neg (by omega), if_neg (by omega), if_neg (by omega), if_neg (by omega), if_pos ho]
end
end Go.QryP
