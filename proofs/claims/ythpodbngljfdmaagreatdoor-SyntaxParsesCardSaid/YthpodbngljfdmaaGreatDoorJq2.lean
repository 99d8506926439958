/-
  Joined texts. No condition beyond those that each theorem names. What they say:
  Queries as trees: how they lie in memory, how great they are, which may be. No condition beyond those that each theorem names.
  The laws of queries, over trees. No condition beyond those that each theorem names.
  The walks of Size, and of the reference: Parts, Deep.
  The walks of few, Few and flat.
  The walks of Same, of both.
  The walks of Name and Letters, of both.
  The walk of words.
  The walk of right.
  The walks of letters and nothing.
  The walk of one.
  The walk of right of the reference.
  The walks of Check, of both.
  What the parser of queries reads, as plain functions. No condition.
  What the printer of queries writes, as plain functions. No condition.
  The walks of next and fail.
  The walks of blanks and take.
  The walk of small.
-/
import Derived.Lib.Bytealg
import Derived.Lib.Repeat
import Derived.Test.YthpodbngljfdmaaGreatDoorJq1
namespace Go.QryP
open Go.Gw Go.UtfP Go.TokP
set_option linter.unusedVariables false
set_option linter.unusedSimpArgs false
/-- a query without its parts -/
structure Hd where
  op : Int
  field : List UInt8
  text : List UInt8
  edits : Int
  exact : Int
  lo : Int
  hi : Int
deriving DecidableEq
def hz : Hd := ⟨0, [], [], 0, 0, 0, 0⟩
/-- as it lies in a slice: the parts are another slice -/
structure QN where
  h : Hd
  parts : Value
def qz : QN := ⟨hz, .slice none 0 0⟩
abbrev qn (op : Int) (field text : List UInt8) (edits ex lo hi : Int) (v : Value) : QN := ⟨⟨op, field, text, edits, ex, lo, hi⟩, v⟩
def qnC (x : QN) : List Value := [.int .i64 x.h.op, .string (sb x.h.field), .string (sb x.h.text), .int .i64 x.h.edits, .int .i64 x.h.exact, .int .u64 x.h.lo, .int .u64 x.h.hi, x.parts]
abbrev qA (h : Hd) (v : Value) : Value := .agg #[.int .i64 h.op, .string (sb h.field), .string (sb h.text), .int .i64 h.edits, .int .i64 h.exact, .int .u64 h.lo, .int .u64 h.hi, v]
abbrev qO (n : Int) (v : Value) : Value := .agg #[.int .i64 n, .string (sb []), .string (sb []), .int .i64 0, .int .i64 0, .int .u64 0, .int .u64 0, v]
theorem qnC_len (x : QN) : (qnC x).length = 8 := rfl
inductive Q where
  | mk (h : Hd) (l : List Q)
def Q.h : Q → Hd
  | .mk h _ => h
def Q.l : Q → List Q
  | .mk _ l => l
def q0 : Q := .mk hz []
theorem Q.eta (q : Q) : Q.mk q.h q.l = q := by cases q; rfl
mutual
def sizeQ : Q → Nat
  | .mk _ l => sizeL l + 1
def sizeL : List Q → Nat
  | [] => 0
  | q :: r => sizeQ q + sizeL r
end
mutual
def deepQ : Q → Nat
  | .mk _ l => deepL l + 1
def deepL : List Q → Nat
  | [] => 0
  | q :: r => max (deepQ q) (deepL r)
end
mutual
/-- how much a query holds -/
def bulkQ : Q → Nat
  | .mk h l => bulkL l + h.field.length + h.text.length + 1
def bulkL : List Q → Nat
  | [] => 0
  | q :: r => bulkQ q + bulkL r
end
mutual
def sameQ : Q → Q → Bool
  | .mk h l, .mk g m => decide (h = g) && sameL l m
def sameL : List Q → List Q → Bool
  | [], [] => true
  | a :: l, b :: m => sameQ a b && sameL l m
  | _, _ => false
end
theorem sizeQ_mk (h : Hd) (l : List Q) : sizeQ (.mk h l) = sizeL l + 1 := by rw [sizeQ]
theorem deepQ_mk (h : Hd) (l : List Q) : deepQ (.mk h l) = deepL l + 1 := by rw [deepQ]
theorem bulkQ_mk (h : Hd) (l : List Q) : bulkQ (.mk h l) = bulkL l + h.field.length + h.text.length + 1 := by rw [bulkQ]
theorem sameQ_mk (h g : Hd) (l m : List Q) : sameQ (.mk h l) (.mk g m) = (decide (h = g) && sameL l m) := by rw [sameQ]
theorem sizeL_app : ∀ (a b : List Q), sizeL (a ++ b) = sizeL a + sizeL b
  | [], b => by simp [sizeL]
  | q :: a, b => by rw [List.cons_append, sizeL, sizeL, sizeL_app a b]; omega
theorem deepL_app : ∀ (a b : List Q), deepL (a ++ b) = max (deepL a) (deepL b)
  | [], b => by simp [deepL]
  | q :: a, b => by rw [List.cons_append, deepL, deepL, deepL_app a b]; omega
theorem bulkL_app : ∀ (a b : List Q), bulkL (a ++ b) = bulkL a + bulkL b
  | [], b => by simp [bulkL]
  | q :: a, b => by rw [List.cons_append, bulkL, bulkL, bulkL_app a b]; omega
theorem bulk_pos (q : Q) : 1 ≤ bulkQ q := by cases q; rw [bulkQ_mk]; omega
theorem size_bulkL : ∀ (l : List Q), (∀ q ∈ l, sizeQ q ≤ bulkQ q ∧ deepQ q ≤ sizeQ q) → sizeL l ≤ bulkL l ∧ deepL l ≤ sizeL l
  | [], _ => by simp [sizeL, bulkL, deepL]
  | q :: l, h => by
    have h1 := h q (List.mem_cons_self ..)
    have h2 := size_bulkL l fun x hx => h x (List.mem_cons_of_mem _ hx)
    rw [sizeL, bulkL, deepL]; omega
section
variable {l : List Q} {i : Nat}
theorem tk_snoc (h : i < l.length) : l.take (i + 1) = l.take i ++ [l.getD i q0] := by
  rw [List.take_succ_eq_append_getElem h, List.getD_eq_getElem?_getD, List.getElem?_eq_getElem h]; rfl
theorem tk_all (h : ¬ i < l.length) : l.take i = l := List.take_of_length_le (by omega)
theorem size_step (h : i < l.length) : sizeL (l.take (i + 1)) = sizeL (l.take i) + sizeQ (l.getD i q0) := by rw [tk_snoc h, sizeL_app]; simp [sizeL]
theorem deep_step (h : i < l.length) : deepL (l.take (i + 1)) = max (deepL (l.take i)) (deepQ (l.getD i q0)) := by rw [tk_snoc h, deepL_app]; simp [deepL]
theorem bulk_step (h : i < l.length) : bulkL (l.take (i + 1)) = bulkL (l.take i) + bulkQ (l.getD i q0) := by rw [tk_snoc h, bulkL_app]; simp [bulkL]
theorem bulk_take (l : List Q) (i : Nat) : bulkL (l.take i) ≤ bulkL l := by
  have := bulkL_app (l.take i) (l.drop i)
  rw [List.take_append_drop] at this; omega
theorem bulk_len : ∀ (l : List Q), l.length ≤ bulkL l
  | [] => Nat.zero_le _
  | q :: l => by have := bulk_len l; have := bulk_pos q; rw [List.length_cons, bulkL]; omega
theorem bulk_kid (h : i < l.length) : bulkQ (l.getD i q0) ≤ bulkL l := by
  have h1 := bulk_step h
  have h2 := bulk_take l (i + 1)
  omega
end
theorem size_bulk : ∀ (n : Nat) (q : Q), bulkQ q ≤ n → sizeQ q ≤ bulkQ q ∧ deepQ q ≤ sizeQ q
  | 0, q, h => by have := bulk_pos q; omega
  | n + 1, .mk g l, h => by
    rw [bulkQ_mk] at h
    have := size_bulkL l fun q hq => by
      obtain ⟨j, hj, rfl⟩ := List.getElem_of_mem hq
      have h1 := bulk_kid (l := l) hj
      rw [List.getD_eq_getElem?_getD, List.getElem?_eq_getElem hj] at h1
      exact size_bulk n l[j] (by have h2 : bulkQ l[j] ≤ bulkL l := h1; omega)
    rw [sizeQ_mk, bulkQ_mk, deepQ_mk]; omega
theorem size_le (q : Q) : sizeQ q ≤ bulkQ q ∧ deepQ q ≤ sizeQ q := size_bulk _ q (Nat.le_refl _)
theorem sizeL_le (l : List Q) : sizeL l ≤ bulkL l ∧ deepL l ≤ sizeL l := size_bulkL l fun q _ => size_le q
/-! ### alike -/
theorem sameL_len : ∀ {a b : List Q}, sameL a b = true → a.length = b.length
  | [], [], _ => rfl
  | [], _ :: _, h => by simp [sameL] at h
  | _ :: _, [], h => by simp [sameL] at h
  | a :: l, b :: m, h => by
    rw [sameL, Bool.and_eq_true] at h
    rw [List.length_cons, List.length_cons, sameL_len h.2]
theorem same_no {a b : List Q} (h : ¬ a.length = b.length) : sameL a b = false := by
  cases e : sameL a b with
  | false => rfl
  | true => exact absurd (sameL_len e) h
theorem same_stepL {a b : List Q} {i : Nat} (h : i < a.length) (h2 : i < b.length) : sameL (a.drop i) (b.drop i) = (sameQ (a.getD i q0) (b.getD i q0) && sameL (a.drop (i + 1)) (b.drop (i + 1))) := by
  rw [List.drop_eq_getElem_cons h, List.drop_eq_getElem_cons h2, sameL, List.getD_eq_getElem?_getD, List.getElem?_eq_getElem h, List.getD_eq_getElem?_getD, List.getElem?_eq_getElem h2]; rfl
theorem same_end {a b : List Q} {i : Nat} (h : ¬ i < a.length) (h2 : a.length = b.length) : sameL (a.drop i) (b.drop i) = true := by
  rw [List.drop_of_length_le (by omega), List.drop_of_length_le (by omega), sameL]
theorem same_reflL : ∀ (l : List Q), (∀ q ∈ l, sameQ q q = true) → sameL l l = true
  | [], _ => by rw [sameL]
  | q :: l, h => by rw [sameL, h q (List.mem_cons_self ..), same_reflL l fun x hx => h x (List.mem_cons_of_mem _ hx)]; rfl
theorem same_reflN : ∀ (m : Nat) (q : Q), bulkQ q ≤ m → sameQ q q = true
  | 0, q, h => by have := bulk_pos q; omega
  | m + 1, .mk g l, h => by
    rw [bulkQ_mk] at h
    rw [sameQ_mk, same_reflL l fun q hq => by
      obtain ⟨j, hj, rfl⟩ := List.getElem_of_mem hq
      have h1 := bulk_kid (l := l) hj
      rw [List.getD_eq_getElem?_getD, List.getElem?_eq_getElem hj] at h1
      exact same_reflN m l[j] (by have h2 : bulkQ l[j] ≤ bulkL l := h1; omega)]
    simp
theorem same_refl (q : Q) : sameQ q q = true := same_reflN _ q (Nat.le_refl _)
/-! ### which may be -/
def nameP (s : List UInt8) : Bool := decide (1 ≤ s.length ∧ s.length ≤ 16) && s.all fun c => decide (97 ≤ c.toNat ∧ c.toNat ≤ 122 ∨ 48 ≤ c.toNat ∧ c.toNat ≤ 57 ∨ c.toNat = 95)
/-- the folded characters of a pattern: the error -/
def letP (s marks : List UInt8) : Int :=
  if decE s ≠ 0 then decE s else if 16 < (foldL s).length then 4 else if (foldL s).length = 0 then 20
  else if (foldL s).all (fun c => letter c || marks.any fun m => c == (m.toNat : Int)) = true then 0 else 20
def letN (s marks : List UInt8) : Nat := if letP s marks = 0 then (foldL s).length else 0
def letL (s marks : List UInt8) : List Int := if letP s marks = 0 then foldL s else []
/-- are all but field and parts empty, as far as they must be? -/
def nothP (h : Hd) (t e n : Bool) : Bool := (t || decide (h.text = [])) && (e || (decide (h.edits = 0) && decide (h.exact = 0))) && (n || (decide (h.lo = 0) && decide (h.hi = 0)))
/-- may the text stand behind the operator? -/
def WP (h : Hd) : Prop := (h.op = 1 ∧ termE h.text = 0) ∨ (h.op = 5 ∧ tokE h.text = 0 ∧ 1 ≤ (tokL h.text).length ∧ (tokL h.text).length ≤ 16) ∨ (h.op = 3 ∧ letP h.text [42, 63] = 0) ∨ (¬ h.op = 1 ∧ ¬ h.op = 5 ∧ ¬ h.op = 3 ∧ letP h.text [] = 0 ∧ 0 ≤ h.edits ∧ h.edits ≤ 2 ∧ 0 ≤ h.exact ∧ h.exact ≤ ((foldL h.text).length : Int))
instance (h : Hd) : Decidable (WP h) := by unfold WP; infer_instance
def wordsP (h : Hd) : Bool := decide (WP h)
/-- a part, without its own parts -/
def nodeP (h : Hd) (n : Nat) : Bool :=
  if h.op = 8 ∨ h.op = 7 then decide (2 ≤ n) && decide (h.field = []) && nothP h false false false
  else if h.op = 9 then decide (n = 1) && decide (h.field = []) && nothP h false false false
  else if h.op = 10 then decide (n = 0) && decide (h.field = []) && nothP h false false false
  else if 0 < n ∨ nameP h.field = false then false
  else if h.op = 1 then decide (termE h.text = 0) && nothP h true false false
  else if h.op = 2 then decide (0 < letN h.text []) && nothP h true false false
  else if h.op = 3 then decide (0 < letN h.text [42, 63]) && nothP h true false false
  else if h.op = 4 then decide (0 < letN h.text [] ∧ 0 ≤ h.edits ∧ h.edits ≤ 2 ∧ 0 ≤ h.exact ∧ h.exact ≤ (letN h.text [] : Int)) && nothP h true true false
  else if h.op = 5 then decide (tokE h.text = 0 ∧ 1 ≤ (tokL h.text).length ∧ (tokL h.text).length ≤ 16) && nothP h true false false
  else if h.op = 6 then nothP h false false true
  else false
mutual
def rightQ : Q → Bool
  | .mk h l => rightL l && nodeP h l.length
def rightL : List Q → Bool
  | [] => true
  | q :: r => rightQ q && rightL r
end
theorem rightQ_mk (h : Hd) (l : List Q) : rightQ (.mk h l) = (rightL l && nodeP h l.length) := by rw [rightQ]
theorem rightL_app : ∀ (a b : List Q), rightL (a ++ b) = (rightL a && rightL b)
  | [], b => by rw [List.nil_append, rightL]; rfl
  | q :: a, b => by rw [List.cons_append, rightL, rightL, rightL_app a b, Bool.and_assoc]
theorem right_step {l : List Q} {i : Nat} (h : i < l.length) : rightL (l.take (i + 1)) = (rightL (l.take i) && rightQ (l.getD i q0)) := by rw [tk_snoc h, rightL_app]; simp [rightL]
theorem right_bad {l : List Q} {i : Nat} (h : i < l.length) (hr : rightQ (l.getD i q0) = false) : rightL l = false := by
  have h1 := rightL_app (l.take (i + 1)) (l.drop (i + 1))
  rw [List.take_append_drop, right_step h, hr] at h1
  rw [h1]; simp
def checkQ (q : Q) : Int := if 64 < sizeQ q ∨ 8 < deepQ q then 4 else if rightQ q = true then 0 else 20
/-! ### how they lie in memory -/
inductive RdQ (w : World) : Q → Value → Prop
  | mk (h : Hd) (l : List Q) (v : Value) (L : List QN) (hr : Rd w 8 v L.length (recs qnC L)) (hl : L.length = l.length) (hh : ∀ j, j < l.length → (L.getD j qz).h = (l.getD j q0).h) (hs : ∀ j, j < l.length → RdQ w (l.getD j q0) (L.getD j qz).parts) : RdQ w (.mk h l) v
theorem RdQ.inv {w : World} {q : Q} {v : Value} (h : RdQ w q v) : ∃ L : List QN, Rd w 8 v L.length (recs qnC L) ∧ L.length = q.l.length ∧ (∀ j, j < q.l.length → (L.getD j qz).h = (q.l.getD j q0).h) ∧ ∀ j, j < q.l.length → RdQ w (q.l.getD j q0) (L.getD j qz).parts := by
  cases h with
  | mk h l v L hr hl hh hs => exact ⟨L, hr, hl, hh, hs⟩
theorem RdQ.map {w w' : World} (h : ∀ (v : Value) (n : Nat) (xs : List Value), Rd w 8 v n xs → Rd w' 8 v n xs) {q : Q} {v : Value} (hq : RdQ w q v) : RdQ w' q v := by
  induction hq with
  | mk g l v L hr hl hh hs ih => exact .mk g l v L (h _ _ _ hr) hl hh ih
theorem RdQ.kept {w w' : World} {q : Q} {v : Value} (h : RdQ w q v) (hk : Kept [] w w') : RdQ w' q v := h.map fun _ _ _ hr => hr.kept0 hk
theorem RdQ.one {w : World} {q : Q} {v : Value} (h : RdQ w q v) : v.oneCell' = true ∧ v.cells = #[v] ∧ v.cells.toList = [v] := by
  obtain ⟨L, hr, _⟩ := h.inv
  exact ⟨rd_one hr, rd_cells hr, rd_cellsl hr⟩
/-- the rows that hold a tree's parts -/
inductive QT (T : List Row) : Q → Value → Prop
  | mk (h : Hd) (l : List Q) (v : Value) (E : TypeId) (L : List QN) (hm : (⟨E, 8, v, L.length, recs qnC L⟩ : Row) ∈ T) (hl : L.length = l.length) (hh : ∀ j, j < l.length → (L.getD j qz).h = (l.getD j q0).h) (hs : ∀ j, j < l.length → QT T (l.getD j q0) (L.getD j qz).parts) : QT T (.mk h l) v
theorem QT.sub {T T' : List Row} (h : ∀ r, r ∈ T → r ∈ T') {q : Q} {v : Value} (hq : QT T q v) : QT T' q v := by
  induction hq with
  | mk g l v E L hm hl hh hs ih => exact .mk g l v E L (h _ hm) hl hh ih
theorem QT.rd {T R : List Row} {S : List Nat} {w0 w : World} (hM : Mem S w0 w R) (h : ∀ r, r ∈ T → r ∈ R) {q : Q} {v : Value} (hq : QT T q v) : RdQ w q v := by
  induction hq with
  | mk g l v E L hm hl hh hs ih => exact .mk g l v L (hM.rdm (h _ hm)) hl hh ih
end Go.QryP
namespace Go.QryP
open Go.Gw Go.UtfP Go.TokP
set_option linter.unusedVariables false
set_option linter.unusedSimpArgs false
theorem hd_ext {a b : Hd} (h1 : a.op = b.op) (h2 : a.field = b.field) (h3 : a.text = b.text) (h4 : a.edits = b.edits) (h5 : a.exact = b.exact) (h6 : a.lo = b.lo) (h7 : a.hi = b.hi) : a = b := by
  cases a; cases b; simp only at h1 h2 h3 h4 h5 h6 h7; subst h1 h2 h3 h4 h5 h6 h7; rfl
theorem same_eq (a b : Q) : sameQ a b = (decide (a.h = b.h) && sameL a.l b.l) := by cases a; cases b; rw [sameQ_mk]; rfl
theorem same_ne {a b : Q} (h : ¬ a.h = b.h) : sameQ a b = false := by rw [same_eq, decide_eq_false h]; rfl
theorem same_nl {a b : Q} (h : ¬ a.l.length = b.l.length) : sameQ a b = false := by rw [same_eq, same_no h, Bool.and_false]
theorem same_go {a b : Q} (h : a.h = b.h) : sameL (a.l.drop 0) (b.l.drop 0) = sameQ a b := by rw [same_eq, decide_eq_true h, List.drop_zero, List.drop_zero]; rfl
end Go.QryP
namespace Go.QryP
open Go.Gw Go.UtfP Go.TokP
set_option linter.unusedVariables false
set_option linter.unusedSimpArgs false
def okI (c : Int) : Prop := 97 ≤ c ∧ c ≤ 122 ∨ 48 ≤ c ∧ c ≤ 57 ∨ c = 95
theorem okI_iff {s : List UInt8} {j : Nat} (h : j < s.length) : okI (bl s j) ↔ (97 ≤ s[j].toNat ∧ s[j].toNat ≤ 122 ∨ 48 ≤ s[j].toNat ∧ s[j].toNat ≤ 57 ∨ s[j].toNat = 95) := by
  unfold okI bl
  rw [List.getD_eq_getElem?_getD, List.getElem?_eq_getElem h]
  simp only [Option.getD_some]
  omega
theorem name_yes {s : List UInt8} (h : 1 ≤ s.length ∧ s.length ≤ 16) (hz : ∀ j, j < s.length → okI (bl s j)) : nameP s = true := by
  unfold nameP
  rw [decide_eq_true h, Bool.true_and, List.all_eq_true]
  intro c hc
  obtain ⟨j, hj, rfl⟩ := List.getElem_of_mem hc
  exact decide_eq_true ((okI_iff hj).1 (hz j hj))
theorem name_no {s : List UInt8} {j : Nat} (h : j < s.length) (hn : ¬ okI (bl s j)) : nameP s = false := by
  cases e : nameP s with
  | false => rfl
  | true =>
    unfold nameP at e
    rw [Bool.and_eq_true, List.all_eq_true] at e
    exact absurd ((okI_iff h).2 (of_decide_eq_true (e.2 s[j] (List.getElem_mem h)))) hn
theorem name_len {s : List UInt8} (h : ¬ (1 ≤ s.length ∧ s.length ≤ 16)) : nameP s = false := by unfold nameP; rw [decide_eq_false h]; rfl
/-- a letter, or one of the first k marks -/
def okM (c : Int) (marks : List UInt8) (k : Nat) : Bool := letter c || (marks.take k).any fun m => c == (m.toNat : Int)
theorem okM_zero (c : Int) (marks : List UInt8) : okM c marks 0 = letter c := by unfold okM; simp
theorem okM_step {c : Int} {marks : List UInt8} {k : Nat} (h : k < marks.length) : okM c marks (k + 1) = (okM c marks k || c == bl marks k) := by
  unfold okM bl
  rw [List.take_succ_eq_append_getElem h, List.any_append, List.getD_eq_getElem?_getD, List.getElem?_eq_getElem h]
  simp [Bool.or_assoc]
theorem okM_all {c : Int} {marks : List UInt8} {k : Nat} (h : ¬ k < marks.length) : okM c marks k = (letter c || marks.any fun m => c == (m.toNat : Int)) := by unfold okM; rw [List.take_of_length_le (by omega)]
section
variable {s marks : List UInt8}
theorem let_err (h : decE s ≠ 0) : letP s marks = decE s ∧ letL s marks = [] := by
  have e : letP s marks = decE s := by unfold letP; rw [if_pos h]
  exact ⟨e, by unfold letL; rw [e, if_neg h]⟩
theorem let_long (h : decE s = 0) (h2 : 16 < (foldL s).length) : letP s marks = 4 ∧ letL s marks = [] := by
  have e : letP s marks = 4 := by unfold letP; rw [if_neg (by omega), if_pos h2]
  exact ⟨e, by unfold letL; rw [e]; rfl⟩
theorem let_none (h : decE s = 0) (h2 : (foldL s).length = 0) : letP s marks = 20 ∧ letL s marks = [] := by
  have e : letP s marks = 20 := by unfold letP; rw [if_neg (by omega), if_neg (by omega), if_pos h2]
  exact ⟨e, by unfold letL; rw [e]; rfl⟩
theorem let_bad (h : decE s = 0) (h2 : ¬ 16 < (foldL s).length) {i : Nat} (hi : i < (foldL s).length) (hn : okM ((foldL s).getD i 0) marks marks.length = false) : letP s marks = 20 ∧ letL s marks = [] := by
  have e : letP s marks = 20 := by
    unfold letP
    rw [if_neg (by omega), if_neg h2, if_neg (by omega), if_neg]
    intro z
    rw [List.all_eq_true] at z
    have := z ((foldL s).getD i 0) (by rw [List.getD_eq_getElem?_getD, List.getElem?_eq_getElem hi]; exact List.getElem_mem hi)
    rw [okM_all (by omega)] at hn
    rw [hn] at this; cases this
  exact ⟨e, by unfold letL; rw [e]; rfl⟩
theorem let_good (h : decE s = 0) (h2 : ¬ 16 < (foldL s).length) (h3 : ¬ (foldL s).length = 0) (hz : ∀ j, j < (foldL s).length → okM ((foldL s).getD j 0) marks marks.length = true) : letP s marks = 0 ∧ letL s marks = foldL s := by
  have e : letP s marks = 0 := by
    unfold letP
    rw [if_neg (by omega), if_neg h2, if_neg h3, if_pos]
    rw [List.all_eq_true]
    intro c hc
    obtain ⟨j, hj, rfl⟩ := List.getElem_of_mem hc
    have := hz j hj
    rwa [okM_all (by omega), List.getD_eq_getElem?_getD, List.getElem?_eq_getElem hj] at this
  exact ⟨e, by unfold letL; rw [e]; rfl⟩
theorem let_pos (h : letP s marks = 0) : 0 < (foldL s).length ∧ letN s marks = (foldL s).length ∧ letL s marks = foldL s := by
  refine ⟨?_, by unfold letN; rw [if_pos h], by unfold letL; rw [if_pos h]⟩
  unfold letP at h
  split at h
  · contradiction
  · split at h
    · cases h
    · split at h
      · cases h
      · omega
theorem letN_no (h : ¬ letP s marks = 0) : letN s marks = 0 := by unfold letN; rw [if_neg h]
theorem letN_iff : 0 < letN s marks ↔ letP s marks = 0 := by
  by_cases h : letP s marks = 0
  · have := let_pos h; rw [this.2.1]; exact ⟨fun _ => h, fun _ => this.1⟩
  · rw [letN_no h]; exact ⟨fun z => absurd z (Nat.lt_irrefl _), fun z => absurd z h⟩
end
section
variable {h : Hd} {n : Nat}
theorem noth_t (h : Hd) : ((h.op == h.op) && (((sb h.field).toList == (sb h.field).toList) && (((sb h.text).toList == (sb h.text).toList) && ((h.edits == 0) && ((h.exact == 0) && ((h.lo == 0) && ((h.hi == 0) && true))))))) = nothP h true false false := by
  rw [Bool.eq_iff_iff]; simp [nothP, and_assoc]
theorem noth_f (h : Hd) : ((h.op == h.op) && (((sb h.field).toList == (sb h.field).toList) && (((sb h.text).toList == (sb h.text).toList) && ((h.edits == h.edits) && ((h.exact == h.exact) && ((h.lo == 0) && ((h.hi == 0) && true))))))) = nothP h true true false := by
  rw [Bool.eq_iff_iff]; simp [nothP, and_assoc]
theorem noth_r (h : Hd) : ((h.op == h.op) && (((sb h.field).toList == (sb h.field).toList) && (((sb h.text).toList == (sb []).toList) && ((h.edits == 0) && ((h.exact == 0) && ((h.lo == h.lo) && ((h.hi == h.hi) && true))))))) = nothP h false false true := by
  rw [Bool.eq_iff_iff]; simp [nothP, and_assoc, sb_toList]
theorem noth_b (h : Hd) : ((h.op == h.op) && (((sb h.field).toList == (sb []).toList) && (((sb h.text).toList == (sb []).toList) && ((h.edits == 0) && ((h.exact == 0) && ((h.lo == 0) && ((h.hi == 0) && true))))))) = (decide (h.field = []) && nothP h false false false) := by
  rw [Bool.eq_iff_iff]; simp [nothP, and_assoc, sb_toList]
theorem node_join (ho : h.op = 8 ∨ h.op = 7) : nodeP h n = (decide (2 ≤ n) && decide (h.field = []) && nothP h false false false) := by unfold nodeP; rw [if_pos ho]
theorem node_not (ho : h.op = 9) : nodeP h n = (decide (n = 1) && decide (h.field = []) && nothP h false false false) := by unfold nodeP; rw [if_neg (by omega), if_pos ho]
theorem node_all (ho : h.op = 10) : nodeP h n = (decide (n = 0) && decide (h.field = []) && nothP h false false false) := by unfold nodeP; rw [if_neg (by omega), if_neg (by omega), if_pos ho]
theorem node_else (ho : ¬ (1 ≤ h.op ∧ h.op ≤ 10)) : nodeP h n = false := by
  unfold nodeP
  rw [if_neg (by omega), if_neg (by omega), if_neg (by omega)]
  split
  · rfl
  · rw [if_neg (by omega), if_neg (by omega), if_neg (by omega), if_neg (by omega), if_neg (by omega), if_neg (by omega)]
theorem node_name (ho : 1 ≤ h.op ∧ h.op ≤ 6) (hn : nameP h.field = false) : nodeP h n = false := by
  unfold nodeP; rw [if_neg (by omega), if_neg (by omega), if_neg (by omega), if_pos (.inr hn)]
theorem node_many (ho : 1 ≤ h.op ∧ h.op ≤ 6) (hn : 0 < n) : nodeP h n = false := by
  unfold nodeP; rw [if_neg (by omega), if_neg (by omega), if_neg (by omega), if_pos (.inl hn)]
theorem node_range (ho : h.op = 6) (hn : nameP h.field = true) (h0 : n = 0) : nodeP h n = nothP h false false true := by
  unfold nodeP; rw [if_neg (by omega), if_neg (by omega), if_neg (by omega), if_neg (by rw [hn]; simp; omega), if_neg (by omega), if_neg (by omega), if_neg (by omega), if_neg (by omega), if_neg (by omega), if_pos ho]
theorem noth_no (he : ¬ (h.edits = 0 ∧ h.exact = 0)) (t m : Bool) : nothP h t false m = false := by
  unfold nothP
  by_cases e : h.edits = 0
  · rw [decide_eq_true e, decide_eq_false (fun z => he ⟨e, z⟩)]; simp
  · rw [decide_eq_false e]; simp
theorem node_word (ho : 1 ≤ h.op ∧ h.op ≤ 5) (hn : nameP h.field = true) (hw : WP h) (h0 : n = 0) : nodeP h n = if h.op = 4 then nothP h true true false else nothP h true false false := by
  unfold nodeP
  rw [if_neg (by omega), if_neg (by omega), if_neg (by omega), if_neg (by rw [hn]; simp; omega)]
  unfold WP at hw
  have l1 := @letN_iff h.text []
  have l2 := @letN_iff h.text [42, 63]
  by_cases o1 : h.op = 1
  · rw [if_pos o1, if_neg (by omega), decide_eq_true (by omega)]; rfl
  · rw [if_neg o1]
    by_cases o2 : h.op = 2
    · rw [if_pos o2, if_neg (by omega), decide_eq_true (by rw [l1]; omega)]; rfl
    · rw [if_neg o2]
      by_cases o3 : h.op = 3
      · rw [if_pos o3, if_neg (by omega), decide_eq_true (by rw [l2]; omega)]; rfl
      · rw [if_neg o3]
        by_cases o4 : h.op = 4
        · have hz : letP h.text [] = 0 := by omega
          have hp := let_pos hz
          rw [if_pos o4, if_pos o4, decide_eq_true (by rw [l1, hp.2.1]; omega)]; rfl
        · rw [if_neg o4, if_neg o4, if_pos (by omega), decide_eq_true (by omega)]; rfl
theorem node_noword (ho : 1 ≤ h.op ∧ h.op ≤ 5) (hw : ¬ WP h) : nodeP h n = false := by
  unfold nodeP
  rw [if_neg (by omega), if_neg (by omega), if_neg (by omega)]
  split
  · rfl
  · unfold WP at hw
    have l1 := @letN_iff h.text []
    have l2 := @letN_iff h.text [42, 63]
    by_cases o1 : h.op = 1
    · rw [if_pos o1, decide_eq_false (by omega)]; rfl
    · rw [if_neg o1]
      by_cases o2 : h.op = 2
      · rw [if_pos o2]
        by_cases hz : letP h.text [] = 0
        · rw [noth_no (by omega), Bool.and_false]
        · rw [decide_eq_false (by rw [l1]; exact hz)]; rfl
      · rw [if_neg o2]
        by_cases o3 : h.op = 3
        · rw [if_pos o3, decide_eq_false (by rw [l2]; omega)]; rfl
        · rw [if_neg o3]
          by_cases o4 : h.op = 4
          · rw [if_pos o4, decide_eq_false]; rfl
            rintro ⟨z1, z2⟩
            have hz := l1.1 z1
            have hp := let_pos hz
            rw [hp.2.1] at z2
            omega
          · rw [if_neg o4, if_pos (by omega), decide_eq_false (by omega)]; rfl
end
theorem right_of {q : Q} (h : rightL q.l = true) : rightQ q = nodeP q.h q.l.length := by cases q with | mk g l => rw [rightQ_mk, (show rightL l = true from h)]; rfl
theorem right_not {q : Q} (h : rightL q.l = false) : rightQ q = false := by cases q with | mk g l => rw [rightQ_mk, (show rightL l = false from h)]; rfl
theorem check_big {q : Q} (h : 64 < sizeQ q ∨ 8 < deepQ q) : checkQ q = 4 := if_pos h
theorem check_bad {q : Q} (h : ¬ (64 < sizeQ q ∨ 8 < deepQ q)) (hr : rightQ q = false) : checkQ q = 20 := by unfold checkQ; rw [if_neg h, hr]; rfl
theorem check_good {q : Q} (h : ¬ (64 < sizeQ q ∨ 8 < deepQ q)) (hr : rightQ q = true) : checkQ q = 0 := by unfold checkQ; rw [if_neg h, hr]; rfl
end Go.QryP
namespace Go.QryP
open Go.Gw Go.UtfP Go.TokP
set_option linter.unusedVariables false
set_option linter.unusedSimpArgs false
theorem qn_left {M : List QN} {x : QN} {j : Nat} (h : j < M.length) : (M ++ [x]).getD j qz = M.getD j qz := by
  rw [List.getD_eq_getElem?_getD, List.getElem?_append_left h, ← List.getD_eq_getElem?_getD]
theorem qn_right {M : List QN} {x : QN} {i : Nat} (h : M.length = i) : (M ++ [x]).getD i qz = x := by
  subst h; rw [List.getD_eq_getElem?_getD, List.getElem?_append_right (Nat.le_refl _)]; simp
theorem QT.whole {q : Q} {u : Value} {E : TypeId} {M : List QN} {T : List Row} (h1 : M.length = q.l.length) (h2 : ∀ j, j < q.l.length → (M.getD j qz).h = (q.l.getD j q0).h) (h3 : ∀ j, j < q.l.length → QT T (q.l.getD j q0) (M.getD j qz).parts) : QT (⟨E, 8, u, M.length, recs qnC M⟩ :: T) q u := by
  cases q with
  | mk g l => exact .mk g l u E M (List.mem_cons_self ..) h1 h2 (fun j hj => (h3 j hj).sub fun r hr => List.mem_cons_of_mem _ hr)
theorem Mem.joinT {S : List Nat} {w0 w w' : World} {A T R : List Row} (h : Mem S w0 w (A ++ T)) (c : Mem [] w w' R) : Mem S w0 w' (A ++ (R ++ T)) := (h.join c).perm (List.perm_append_comm_assoc _ _ _)
theorem Mem.join0 {S : List Nat} {w0 w w' : World} {A R : List Row} (h : Mem S w0 w A) (c : Mem [] w w' R) : Mem S w0 w' (A ++ R) := (h.join c).perm List.perm_append_comm
end Go.QryP
namespace Go.QryP
open Go.Gw Go.UtfP Go.TokP
set_option linter.unusedVariables false
set_option linter.unusedSimpArgs false
section
variable {h : Hd} {n : Nat}
theorem node_out (ho : ¬ (h.op = 8 ∨ h.op = 7) ∧ ¬ h.op = 9 ∧ ¬ h.op = 10) (hn : 0 < n ∨ nameP h.field = false) : nodeP h n = false := by
  unfold nodeP; rw [if_neg ho.1, if_neg ho.2.1, if_neg ho.2.2, if_pos hn]
theorem node_in (ho : 1 ≤ h.op ∧ h.op ≤ 6) (h0 : n = 0) (hn : nameP h.field = true) : nodeP h n = (if h.op = 1 then decide (termE h.text = 0) && nothP h true false false
  else if h.op = 2 then decide (0 < letN h.text []) && nothP h true false false
  else if h.op = 3 then decide (0 < letN h.text [42, 63]) && nothP h true false false
  else if h.op = 4 then decide (0 < letN h.text [] ∧ 0 ≤ h.edits ∧ h.edits ≤ 2 ∧ 0 ≤ h.exact ∧ h.exact ≤ (letN h.text [] : Int)) && nothP h true true false
  else if h.op = 5 then decide (tokE h.text = 0 ∧ 1 ≤ (tokL h.text).length ∧ (tokL h.text).length ≤ 16) && nothP h true false false
  else if h.op = 6 then nothP h false false true
  else false) := by
  unfold nodeP
  rw [if_neg (by omega), if_neg (by omega), if_neg (by omega), if_neg (by rw [hn]; simp; omega)]
theorem node_1 (ho : h.op = 1) (h0 : n = 0) (hn : nameP h.field = true) : nodeP h n = (decide (termE h.text = 0) && nothP h true false false) := by rw [node_in (by omega) h0 hn, if_pos ho]
theorem node_2 (ho : h.op = 2) (h0 : n = 0) (hn : nameP h.field = true) : nodeP h n = (decide (0 < letN h.text []) && nothP h true false false) := by rw [node_in (by omega) h0 hn, if_neg (by omega), if_pos ho]
theorem node_3 (ho : h.op = 3) (h0 : n = 0) (hn : nameP h.field = true) : nodeP h n = (decide (0 < letN h.text [42, 63]) && nothP h true false false) := by rw [node_in (by omega) h0 hn, if_neg (by omega), if_neg (by omega), if_pos ho]
theorem node_4 (ho : h.op = 4) (h0 : n = 0) (hn : nameP h.field = true) : nodeP h n = (decide (0 < letN h.text [] ∧ 0 ≤ h.edits ∧ h.edits ≤ 2 ∧ 0 ≤ h.exact ∧ h.exact ≤ (letN h.text [] : Int)) && nothP h true true false) := by rw [node_in (by omega) h0 hn, if_neg (by omega), if_neg (by omega), if_neg (by omega), if_pos ho]
theorem node_5 (ho : h.op = 5) (h0 : n = 0) (hn : nameP h.field = true) : nodeP h n = (decide (tokE h.text = 0 ∧ 1 ≤ (tokL h.text).length ∧ (tokL h.text).length ≤ 16) && nothP h true false false) := by rw [node_in (by omega) h0 hn, if_neg (by omega), if_neg (by omega), if_neg (by omega), if_neg (by omega), if_pos ho]
end
end Go.QryP


namespace Go.QryP
open Go.Gw Go.UtfP Go.TokP
set_option linter.unusedVariables false
set_option linter.unusedSimpArgs false
abbrev opH (k : Int) : Hd := ⟨k, [], [], 0, 0, 0, 0⟩
theorem RdQ.nil (w : World) (g : Hd) : RdQ w (.mk g []) (.slice none 0 0) := .mk g [] _ [] (Rd.nil w 8) rfl (fun j hj => absurd hj (Nat.not_lt_zero _)) (fun j hj => absurd hj (Nat.not_lt_zero _))
theorem QT.nil {T : List Row} {E : TypeId} (h : (⟨E, 8, .slice none 0 0, 0, []⟩ : Row) ∈ T) (g : Hd) : QT T (.mk g []) (.slice none 0 0) := .mk g [] _ E [] h rfl (fun j hj => absurd hj (Nat.not_lt_zero _)) (fun j hj => absurd hj (Nat.not_lt_zero _))
theorem QT.one {T : List Row} {E : TypeId} {v u : Value} {g k : Hd} {l : List Q} (h : (⟨E, 8, v, 1, recs qnC [⟨k, u⟩]⟩ : Row) ∈ T) (hq : QT T (.mk k l) u) : QT T (.mk g [.mk k l]) v := by
  refine .mk g _ v E [⟨k, u⟩] h rfl (fun j hj => ?_) (fun j hj => ?_)
  · match j, hj with | 0, _ => rfl
  · match j, hj with | 0, _ => exact hq
theorem QT.two {T : List Row} {E : TypeId} {v u u2 : Value} {g k k2 : Hd} {l l2 : List Q} (h : (⟨E, 8, v, 2, recs qnC [⟨k, u⟩, ⟨k2, u2⟩]⟩ : Row) ∈ T) (hq : QT T (.mk k l) u) (hq2 : QT T (.mk k2 l2) u2) : QT T (.mk g [.mk k l, .mk k2 l2]) v := by
  refine .mk g _ v E [⟨k, u⟩, ⟨k2, u2⟩] h rfl (fun j hj => ?_) (fun j hj => ?_)
  · match j, hj with
    | 0, _ => rfl
    | 1, _ => rfl
  · match j, hj with
    | 0, _ => exact hq
    | 1, _ => exact hq2
theorem qnC_one {x : QN} (h : x.parts.oneCell' = true) : ∀ u ∈ qnC x, u.oneCell' = true := by
  intro u hu
  simp only [qnC, List.mem_cons, List.not_mem_nil, or_false] at hu
  rcases hu with rfl | rfl | rfl | rfl | rfl | rfl | rfl | rfl <;> first | rfl | exact h
end Go.QryP
namespace Go.QryP
open Go.Gw Go.UtfP Go.TokP
set_option linter.unusedVariables false
set_option linter.unusedSimpArgs false
end Go.QryP


namespace Go.Proofs.YthpodbngljfdmaaGreatDoor
open Go Go.Gw Go.UtfP Go.TokP Go.QryP Go.RowKit
set_option linter.unusedVariables false
set_option linter.unusedSimpArgs false
set_option maxRecDepth 20000
theorem sT23 : SliceT Tryz.prog 23 25 8 96 (.agg #[.int .i64 0, .string (sb ([])), .string (sb ([])), .int .i64 0, .int .i64 0, .int .u64 0, .int .u64 0, .slice none 0 0]) := ⟨by kernel_rfl, ⟨_, rfl, by kernel_rfl, by kernel_rfl, by kernel_rfl⟩, rfl, by decide⟩
theorem pE23 : Plain Tryz.prog 23 := ⟨.slice 25, by kernel_rfl, (fun _ h => by cases h), (fun _ _ h => by cases h)⟩
theorem oT25 : ObjT Tryz.prog 25 8 (.agg #[.int .i64 0, .string (sb ([])), .string (sb ([])), .int .i64 0, .int .i64 0, .int .u64 0, .int .u64 0, .slice none 0 0]) := ⟨⟨_, rfl, by kernel_rfl, by kernel_rfl⟩, rfl⟩
theorem aE25 : Agged Tryz.prog 25 8 := ⟨⟨_, Tryz.underlying25, .inl ⟨_, rfl⟩⟩, _, rfl, by kernel_rfl⟩

abbrev uQryA0 : List Nat := [1,1,0,1,0,0]
set_option maxHeartbeats 1000000 in
theorem size_c_L (N : Nat) (ih : ∀ (q : Q), bulkQ q < N → ∀ {w : World} (h : Hd) (he : h = q.h) (v : Value) (hq : RdQ w q v) (hb : bulkQ q ≤ 1048576) , Calls Tryz.prog 27 #[.agg #[.int .i64 (h.op), sS (h.field), sS (h.text), .int .i64 (h.edits), .int .i64 (h.exact), .int .u64 (h.lo), .int .u64 (h.hi), v]] w (fun e w' => e = .returned (.tuple #[iN (sizeQ q), iN (deepQ q)]) ∧ Mem [] w w' [])) {w0 : World} (q : Q) (h : Hd) (he : h = q.h) (v : Value) (hq : RdQ w0 q v) (hb : bulkQ q ≤ 1048576) (L : List QN) (hr : Rd w0 8 v L.length (recs qnC L)) (hl : L.length = q.l.length) (hh : ∀ j, j < q.l.length → (L.getD j qz).h = (q.l.getD j q0).h) (hs : ∀ j, j < q.l.length → RdQ w0 (q.l.getD j q0) (L.getD j qz).parts) (hN : bulkQ q = N) (R : Ending → World → Prop) (hR : R = (fun e w' => e = .returned (.tuple #[iN (sizeQ q), iN (deepQ q)]) ∧ Mem [] w0 w' [])) : ∀ (M_ : Nat) (i : Nat) (w : World) (hi : i ≤ L.length) (hM : Mem [] w0 w []) (hN : L.length - i < M_), GoS Tryz.prog 27 R 30 [iC Tryz.f27 uQryA0, iL Tryz.f27 uQryA0, .inBlock 0, iC Tryz.f27 [1,1,1]] [(2, iN (sizeL (List.take i q.l) + 1)), (3, iN (deepL (List.take i q.l))), (9, v), (10, iN (List.length L)), (11, iN i)] w := by
 intro M_
 induction M_ with
 | zero => intro i w hi hM hN; exact absurd hN (Nat.not_lt_zero _)
 | succ M_ ih_ =>
  intro i w hi hM hN
  have hbl : bulkL q.l + q.h.field.length + q.h.text.length + 1 = bulkQ q := by cases q; rw [bulkQ_mk]; rfl
  have hln := bulk_len q.l
  have hst := sizeL_le (List.take i q.l)
  have hbt := bulk_take q.l i
  have hbt1 := bulk_take q.l (i + 1)
  refine xs ?_
  refine xc 5 (((i : Nat) : Int) < (((List.length L) : Nat) : Int)) (fun h1p => ?_) (fun h1p => ?_)
  ·
   refine xat 5 sT23 (hr.kept0 hM.kept) ((i : Nat) : Int) i (fun p3 hp4 => ?_)
   refine xv 0 (r_loads (f := qnC) (l := L) aE25 (hr.kept0 hM.kept) qnC_len hp4 (by first | omega | (dsimp only; omega)) qz) ?_
   refine xx 0 (m_alloc oT25 hM) (fun b6 w7 hM9 => ?_)
   refine xst 0 (c_stores (ys := [.int .i64 ((List.getD L i qz).h.op), sS ((List.getD L i qz).h.field), sS ((List.getD L i qz).h.text), .int .i64 ((List.getD L i qz).h.edits), .int .i64 ((List.getD L i qz).h.exact), .int .u64 ((List.getD L i qz).h.lo), .int .u64 ((List.getD L i qz).h.hi), ((List.getD L i qz).parts)]) aE25 hM9 0 rfl (cel_obj b6 0) rfl (by decide) (by intro u hu; simp at hu; rcases hu with rfl | rfl | rfl | rfl | rfl | rfl | rfl | rfl <;> first | rfl | exact ((hs i (by omega)).kept hM9.kept).one.1)) (fun w11 hM13 => ?_)
   refine xv 3 (c_loads (ys := [.int .i64 ((List.getD L i qz).h.op), sS ((List.getD L i qz).h.field), sS ((List.getD L i qz).h.text), .int .i64 ((List.getD L i qz).h.edits), .int .i64 ((List.getD L i qz).h.exact), .int .u64 ((List.getD L i qz).h.lo), .int .u64 ((List.getD L i qz).h.hi), ((List.getD L i qz).parts)]) aE25 (hM13.rd 0 rfl) (cel_obj b6 0) rfl (lq rfl)) ?_
   have hM19 := hM13.sub (sD sR)
   have hkb23 := bulk_kid (l := q.l) (i := i) (by omega)
   have hks24 := size_le (List.getD q.l i q0)
   have hbs25 := bulk_step (l := q.l) (i := i) (by omega)
   refine xk 0 (ih (List.getD q.l i q0) (by omega) ((List.getD L i qz).h) (hh i (by omega)) ((List.getD L i qz).parts) ((hs i (by omega)).kept hM19.kept) (by omega)) (fun w20 m21 => ?_)
   have hM22 : Mem [] w0 w20 [] := Mem.join (R := []) hM19 m21
   refine xa 10 (((sizeL (List.take i q.l) + 1) : Nat) : Int) (((sizeQ (List.getD q.l i q0)) : Nat) : Int) ((((sizeL (List.take i q.l) + 1) + (sizeQ (List.getD q.l i q0))) : Nat) : Int) ?_
   refine xv 5 (show (Builtin.max_ #[3, 3] 3 #[iN (deepL (List.take i q.l)), iN (deepQ (List.getD q.l i q0))]).run Tryz.prog w20 = .ok (iN (max (deepL (List.take i q.l)) (deepQ (List.getD q.l i q0)))) w20 from f_max (by split <;> omega)) ?_
   refine xa 4 ((i : Nat) : Int) 1 (((i + 1) : Nat) : Int) ?_
   exact xl 3 (l := [(2, iN ((sizeL (List.take i q.l) + 1) + (sizeQ (List.getD q.l i q0)))), (3, iN (max (deepL (List.take i q.l)) (deepQ (List.getD q.l i q0)))), (9, v), (10, iN (List.length L)), (11, iN (i + 1))]) (GoS.cast (by rw [show sizeL (List.take (i + 1) q.l) + 1 = (sizeL (List.take i q.l) + 1) + sizeQ (List.getD q.l i q0) by rw [size_step (show i < q.l.length by omega)]; omega, deep_step (show i < q.l.length by omega)]) (ih_ (i + 1) _ (by omega) (hM22.sub sN) (by omega)))
  ·
   refine xa 5 (((deepL (List.take i q.l)) : Nat) : Int) 1 ((((deepL (List.take i q.l)) + 1) : Nat) : Int) ?_
   have e1 : List.take i q.l = q.l := tk_all (by omega)
   have e2 : sizeQ q = sizeL q.l + 1 := by cases q; rw [sizeQ_mk]; rfl
   have e3 : deepQ q = deepL q.l + 1 := by cases q; rw [deepQ_mk]; rfl
   exact xr 3 (v := .tuple #[iN (sizeL (List.take i q.l) + 1), iN ((deepL (List.take i q.l)) + 1)]) Tryz.func27 hR ⟨by rw [e2, e3, e1], hM.sub sN⟩

set_option maxHeartbeats 400000 in
theorem size_c_s (N : Nat) (ih : ∀ (q : Q), bulkQ q < N → ∀ {w : World} (h : Hd) (he : h = q.h) (v : Value) (hq : RdQ w q v) (hb : bulkQ q ≤ 1048576) , Calls Tryz.prog 27 #[.agg #[.int .i64 (h.op), sS (h.field), sS (h.text), .int .i64 (h.edits), .int .i64 (h.exact), .int .u64 (h.lo), .int .u64 (h.hi), v]] w (fun e w' => e = .returned (.tuple #[iN (sizeQ q), iN (deepQ q)]) ∧ Mem [] w w' [])) {w : World} (q : Q) (h : Hd) (he : h = q.h) (v : Value) (hq : RdQ w q v) (hb : bulkQ q ≤ 1048576) (hN : bulkQ q = N) :
  Calls Tryz.prog 27 #[.agg #[.int .i64 (h.op), sS (h.field), sS (h.text), .int .i64 (h.edits), .int .i64 (h.exact), .int .u64 (h.lo), .int .u64 (h.hi), v]] w (fun e w' => e = .returned (.tuple #[iN (sizeQ q), iN (deepQ q)]) ∧ Mem [] w w' []) := by
 obtain ⟨L, hr, hl, hh, hs⟩ := hq.inv
 have hbl : bulkL q.l + q.h.field.length + q.h.text.length + 1 = bulkQ q := by cases q; rw [bulkQ_mk]; rfl
 have hln := bulk_len q.l
 refine xe 30 Tryz.func27 (fun R hR => ?_)
 have hM0 := Mem.start w
 refine xx 2 (m_box (T := 25) (k := 8) (u := .agg #[.int .i64 (h.op), sS (h.field), sS (h.text), .int .i64 (h.edits), .int .i64 (h.exact), .int .u64 (h.lo), .int .u64 (h.hi), v]) rfl rfl hM0) (fun b1 w2 hM4 => ?_)
 refine xv 11 (c_load pE23 (hM4.rd 0 rfl) (cel_obj b1 7) rfl) ?_
 refine xv 0 (f_slen sT23 (hr.kept0 hM4.kept) 3 w2) ?_
 have hM9 := hM4.sub (sD sR)
 exact xl 4 (size_c_L N ih q h he v hq hb L hr hl hh hs  hN R hR (L.length + 1) 0 w2 (Nat.zero_le _) ((hM9.sub sN)) (by omega))

theorem size_c_n : ∀ (N : Nat), ∀ (q : Q), bulkQ q ≤ N → ∀ {w : World} (h : Hd) (he : h = q.h) (v : Value) (hq : RdQ w q v) (hb : bulkQ q ≤ 1048576) , Calls Tryz.prog 27 #[.agg #[.int .i64 (h.op), sS (h.field), sS (h.text), .int .i64 (h.edits), .int .i64 (h.exact), .int .u64 (h.lo), .int .u64 (h.hi), v]] w (fun e w' => e = .returned (.tuple #[iN (sizeQ q), iN (deepQ q)]) ∧ Mem [] w w' []) := by
 intro N
 induction N with
 | zero => intro q hn; have := bulk_pos q; omega
 | succ N ihn => intro q hn w h he v hq hb; exact size_c_s (bulkQ q) (fun c hc => ihn c (by omega)) q h he v hq hb rfl

theorem size_c {w : World} (q : Q) (h : Hd) (he : h = q.h) (v : Value) (hq : RdQ w q v) (hb : bulkQ q ≤ 1048576)  :
  Calls Tryz.prog 27 #[.agg #[.int .i64 (h.op), sS (h.field), sS (h.text), .int .i64 (h.edits), .int .i64 (h.exact), .int .u64 (h.lo), .int .u64 (h.hi), v]] w (fun e w' => e = .returned (.tuple #[iN (sizeQ q), iN (deepQ q)]) ∧ Mem [] w w' []) := size_c_n (bulkQ q) q (Nat.le_refl _) h he v hq hb

set_option maxHeartbeats 1000000 in
theorem parts_c_L (N : Nat) (ih : ∀ (q : Q), bulkQ q < N → ∀ {w : World} (h : Hd) (he : h = q.h) (v : Value) (hq : RdQ w q v) (hb : bulkQ q ≤ 1048576) , Calls Tryz.prog 34 #[.agg #[.int .i64 (h.op), sS (h.field), sS (h.text), .int .i64 (h.edits), .int .i64 (h.exact), .int .u64 (h.lo), .int .u64 (h.hi), v]] w (fun e w' => e = .returned (iN (sizeQ q)) ∧ Mem [] w w' [])) {w0 : World} (q : Q) (h : Hd) (he : h = q.h) (v : Value) (hq : RdQ w0 q v) (hb : bulkQ q ≤ 1048576) (L : List QN) (hr : Rd w0 8 v L.length (recs qnC L)) (hl : L.length = q.l.length) (hh : ∀ j, j < q.l.length → (L.getD j qz).h = (q.l.getD j q0).h) (hs : ∀ j, j < q.l.length → RdQ w0 (q.l.getD j q0) (L.getD j qz).parts) (b : Nat) (hN : bulkQ q = N) (R : Ending → World → Prop) (hR : R = (fun e w' => e = .returned (iN (sizeQ q)) ∧ Mem [] w0 w' [])) : ∀ (M_ : Nat) (i : Nat) (w : World) (hi : i ≤ L.length) (hM : Mem [] w0 w [⟨25, 8, (obj b), 1, [.int .i64 (h.op), sS (h.field), sS (h.text), .int .i64 (h.edits), .int .i64 (h.exact), .int .u64 (h.lo), .int .u64 (h.hi), v]⟩]) (hN : L.length - i < M_), GoS Tryz.prog 34 R 21 [iC Tryz.f34 uQryA0, iL Tryz.f34 uQryA0, .inBlock 0, iC Tryz.f34 [1,1,1]] [(1, pq b), (3, iN (sizeL (List.take i q.l) + 1)), (4, iN i)] w := by
 intro M_
 induction M_ with
 | zero => intro i w hi hM hN; exact absurd hN (Nat.not_lt_zero _)
 | succ M_ ih_ =>
  intro i w hi hM hN
  have hbl : bulkL q.l + q.h.field.length + q.h.text.length + 1 = bulkQ q := by cases q; rw [bulkQ_mk]; rfl
  have hln := bulk_len q.l
  have hst := sizeL_le (List.take i q.l)
  have hbt := bulk_take q.l i
  have hbt1 := bulk_take q.l (i + 1)
  refine xs ?_
  refine xv 5 (c_load pE23 (hM.rd 0 rfl) (cel_obj b 7) rfl) ?_
  refine xv 0 (f_slen sT23 (hr.kept0 hM.kept) 3 w) ?_
  refine xc 2 (((i : Nat) : Int) < (((List.length L) : Nat) : Int)) (fun h3p => ?_) (fun h3p => ?_)
  ·
   refine xv 6 (c_load pE23 (hM.rd 0 rfl) (cel_obj b 7) rfl) ?_
   refine xat 1 sT23 (hr.kept0 hM.kept) ((i : Nat) : Int) i (fun p5 hp6 => ?_)
   refine xv 0 (r_loads (f := qnC) (l := L) aE25 (hr.kept0 hM.kept) qnC_len hp6 (by first | omega | (dsimp only; omega)) qz) ?_
   have hkb14 := bulk_kid (l := q.l) (i := i) (by omega)
   have hks15 := size_le (List.getD q.l i q0)
   have hbs16 := bulk_step (l := q.l) (i := i) (by omega)
   refine xk 0 (ih (List.getD q.l i q0) (by omega) ((List.getD L i qz).h) (hh i (by omega)) ((List.getD L i qz).parts) ((hs i (by omega)).kept hM.kept) (by omega)) (fun w11 m12 => ?_)
   have hM13 : Mem [] w0 w11 [⟨25, 8, (obj b), 1, [.int .i64 (h.op), sS (h.field), sS (h.text), .int .i64 (h.edits), .int .i64 (h.exact), .int .u64 (h.lo), .int .u64 (h.hi), v]⟩] := Mem.join (R := []) hM m12
   refine xa 0 (((sizeL (List.take i q.l) + 1) : Nat) : Int) (((sizeQ (List.getD q.l i q0)) : Nat) : Int) ((((sizeL (List.take i q.l) + 1) + (sizeQ (List.getD q.l i q0))) : Nat) : Int) ?_
   refine xa 5 ((i : Nat) : Int) 1 (((i + 1) : Nat) : Int) ?_
   exact xl 3 (l := [(1, pq b), (3, iN ((sizeL (List.take i q.l) + 1) + (sizeQ (List.getD q.l i q0)))), (4, iN (i + 1))]) (GoS.cast (by rw [show sizeL (List.take (i + 1) q.l) + 1 = (sizeL (List.take i q.l) + 1) + sizeQ (List.getD q.l i q0) by rw [size_step (show i < q.l.length by omega)]; omega]) (ih_ (i + 1) _ (by omega) (hM13.sub (sK sN)) (by omega)))
  ·
   have hM4 := hM.sub (sD sR)
   have e1 : List.take i q.l = q.l := tk_all (by omega)
   have e2 : sizeQ q = sizeL q.l + 1 := by cases q; rw [sizeQ_mk]; rfl
   exact xr 6 (v := iN (sizeL (List.take i q.l) + 1)) Tryz.func34 hR ⟨by rw [e2, e1], hM4.sub sN⟩

set_option maxHeartbeats 400000 in
theorem parts_c_s (N : Nat) (ih : ∀ (q : Q), bulkQ q < N → ∀ {w : World} (h : Hd) (he : h = q.h) (v : Value) (hq : RdQ w q v) (hb : bulkQ q ≤ 1048576) , Calls Tryz.prog 34 #[.agg #[.int .i64 (h.op), sS (h.field), sS (h.text), .int .i64 (h.edits), .int .i64 (h.exact), .int .u64 (h.lo), .int .u64 (h.hi), v]] w (fun e w' => e = .returned (iN (sizeQ q)) ∧ Mem [] w w' [])) {w : World} (q : Q) (h : Hd) (he : h = q.h) (v : Value) (hq : RdQ w q v) (hb : bulkQ q ≤ 1048576) (hN : bulkQ q = N) :
  Calls Tryz.prog 34 #[.agg #[.int .i64 (h.op), sS (h.field), sS (h.text), .int .i64 (h.edits), .int .i64 (h.exact), .int .u64 (h.lo), .int .u64 (h.hi), v]] w (fun e w' => e = .returned (iN (sizeQ q)) ∧ Mem [] w w' []) := by
 obtain ⟨L, hr, hl, hh, hs⟩ := hq.inv
 have hbl : bulkL q.l + q.h.field.length + q.h.text.length + 1 = bulkQ q := by cases q; rw [bulkQ_mk]; rfl
 have hln := bulk_len q.l
 refine xe 21 Tryz.func34 (fun R hR => ?_)
 have hM0 := Mem.start w
 refine xx 2 (m_box (T := 25) (k := 8) (u := .agg #[.int .i64 (h.op), sS (h.field), sS (h.text), .int .i64 (h.edits), .int .i64 (h.exact), .int .u64 (h.lo), .int .u64 (h.hi), v]) rfl rfl hM0) (fun b1 w2 hM4 => ?_)
 exact xl 13 (parts_c_L N ih q h he v hq hb L hr hl hh hs b1  hN R hR (L.length + 1) 0 w2 (Nat.zero_le _) ((hM4.sub (sK sN))) (by omega))

theorem parts_c_n : ∀ (N : Nat), ∀ (q : Q), bulkQ q ≤ N → ∀ {w : World} (h : Hd) (he : h = q.h) (v : Value) (hq : RdQ w q v) (hb : bulkQ q ≤ 1048576) , Calls Tryz.prog 34 #[.agg #[.int .i64 (h.op), sS (h.field), sS (h.text), .int .i64 (h.edits), .int .i64 (h.exact), .int .u64 (h.lo), .int .u64 (h.hi), v]] w (fun e w' => e = .returned (iN (sizeQ q)) ∧ Mem [] w w' []) := by
 intro N
 induction N with
 | zero => intro q hn; have := bulk_pos q; omega
 | succ N ihn => intro q hn w h he v hq hb; exact parts_c_s (bulkQ q) (fun c hc => ihn c (by omega)) q h he v hq hb rfl

theorem parts_c {w : World} (q : Q) (h : Hd) (he : h = q.h) (v : Value) (hq : RdQ w q v) (hb : bulkQ q ≤ 1048576)  :
  Calls Tryz.prog 34 #[.agg #[.int .i64 (h.op), sS (h.field), sS (h.text), .int .i64 (h.edits), .int .i64 (h.exact), .int .u64 (h.lo), .int .u64 (h.hi), v]] w (fun e w' => e = .returned (iN (sizeQ q)) ∧ Mem [] w w' []) := parts_c_n (bulkQ q) q (Nat.le_refl _) h he v hq hb

set_option maxHeartbeats 1000000 in
theorem deep_c_L (N : Nat) (ih : ∀ (q : Q), bulkQ q < N → ∀ {w : World} (h : Hd) (he : h = q.h) (v : Value) (hq : RdQ w q v) (hb : bulkQ q ≤ 1048576) , Calls Tryz.prog 35 #[.agg #[.int .i64 (h.op), sS (h.field), sS (h.text), .int .i64 (h.edits), .int .i64 (h.exact), .int .u64 (h.lo), .int .u64 (h.hi), v]] w (fun e w' => e = .returned (iN (deepQ q)) ∧ Mem [] w w' [])) {w0 : World} (q : Q) (h : Hd) (he : h = q.h) (v : Value) (hq : RdQ w0 q v) (hb : bulkQ q ≤ 1048576) (L : List QN) (hr : Rd w0 8 v L.length (recs qnC L)) (hl : L.length = q.l.length) (hh : ∀ j, j < q.l.length → (L.getD j qz).h = (q.l.getD j q0).h) (hs : ∀ j, j < q.l.length → RdQ w0 (q.l.getD j q0) (L.getD j qz).parts) (b : Nat) (hN : bulkQ q = N) (R : Ending → World → Prop) (hR : R = (fun e w' => e = .returned (iN (deepQ q)) ∧ Mem [] w0 w' [])) : ∀ (M_ : Nat) (i : Nat) (w : World) (hi : i ≤ L.length) (hM : Mem [] w0 w [⟨25, 8, (obj b), 1, [.int .i64 (h.op), sS (h.field), sS (h.text), .int .i64 (h.edits), .int .i64 (h.exact), .int .u64 (h.lo), .int .u64 (h.hi), v]⟩]) (hN : L.length - i < M_), GoS Tryz.prog 35 R 25 [iC Tryz.f35 uQryA0, iL Tryz.f35 uQryA0, .inBlock 0, iC Tryz.f35 [1,1,1]] [(1, pq b), (3, iN (deepL (List.take i q.l))), (4, iN i)] w := by
 intro M_
 induction M_ with
 | zero => intro i w hi hM hN; exact absurd hN (Nat.not_lt_zero _)
 | succ M_ ih_ =>
  intro i w hi hM hN
  have hbl : bulkL q.l + q.h.field.length + q.h.text.length + 1 = bulkQ q := by cases q; rw [bulkQ_mk]; rfl
  have hln := bulk_len q.l
  have hst := sizeL_le (List.take i q.l)
  have hbt := bulk_take q.l i
  have hbt1 := bulk_take q.l (i + 1)
  refine xs ?_
  refine xv 5 (c_load pE23 (hM.rd 0 rfl) (cel_obj b 7) rfl) ?_
  refine xv 0 (f_slen sT23 (hr.kept0 hM.kept) 3 w) ?_
  refine xc 2 (((i : Nat) : Int) < (((List.length L) : Nat) : Int)) (fun h3p => ?_) (fun h3p => ?_)
  ·
   refine xv 6 (c_load pE23 (hM.rd 0 rfl) (cel_obj b 7) rfl) ?_
   refine xat 1 sT23 (hr.kept0 hM.kept) ((i : Nat) : Int) i (fun p6 hp7 => ?_)
   refine xv 0 (r_loads (f := qnC) (l := L) aE25 (hr.kept0 hM.kept) qnC_len hp7 (by first | omega | (dsimp only; omega)) qz) ?_
   have hkb15 := bulk_kid (l := q.l) (i := i) (by omega)
   have hks16 := size_le (List.getD q.l i q0)
   have hbs17 := bulk_step (l := q.l) (i := i) (by omega)
   refine xk 0 (ih (List.getD q.l i q0) (by omega) ((List.getD L i qz).h) (hh i (by omega)) ((List.getD L i qz).parts) ((hs i (by omega)).kept hM.kept) (by omega)) (fun w12 m13 => ?_)
   have hM14 : Mem [] w0 w12 [⟨25, 8, (obj b), 1, [.int .i64 (h.op), sS (h.field), sS (h.text), .int .i64 (h.edits), .int .i64 (h.exact), .int .u64 (h.lo), .int .u64 (h.hi), v]⟩] := Mem.join (R := []) hM m13
   refine xc 8 ((((deepQ (List.getD q.l i q0)) : Nat) : Int) > (((deepL (List.take i q.l)) : Nat) : Int)) (fun h18p => ?_) (fun h18p => ?_)
   ·
    refine xa 7 ((i : Nat) : Int) 1 (((i + 1) : Nat) : Int) ?_
    exact xl 3 (l := [(1, pq b), (3, iN (deepQ (List.getD q.l i q0))), (4, iN (i + 1))]) (GoS.cast (by rw [deep_step (show i < q.l.length by omega), Nat.max_eq_right (by omega)]) (ih_ (i + 1) _ (by omega) (hM14.sub (sK sN)) (by omega)))
   ·
    refine xa 4 ((i : Nat) : Int) 1 (((i + 1) : Nat) : Int) ?_
    exact xl 3 (l := [(1, pq b), (3, iN (deepL (List.take i q.l))), (4, iN (i + 1))]) (GoS.cast (by rw [deep_step (show i < q.l.length by omega), Nat.max_eq_left (by omega)]) (ih_ (i + 1) _ (by omega) (hM14.sub (sK sN)) (by omega)))
  ·
   refine xa 4 (((deepL (List.take i q.l)) : Nat) : Int) 1 ((((deepL (List.take i q.l)) + 1) : Nat) : Int) ?_
   have hM5 := hM.sub (sD sR)
   have e1 : List.take i q.l = q.l := tk_all (by omega)
   have e3 : deepQ q = deepL q.l + 1 := by cases q; rw [deepQ_mk]; rfl
   exact xr 2 (v := iN ((deepL (List.take i q.l)) + 1)) Tryz.func35 hR ⟨by rw [e3, e1], hM5.sub sN⟩

set_option maxHeartbeats 400000 in
theorem deep_c_s (N : Nat) (ih : ∀ (q : Q), bulkQ q < N → ∀ {w : World} (h : Hd) (he : h = q.h) (v : Value) (hq : RdQ w q v) (hb : bulkQ q ≤ 1048576) , Calls Tryz.prog 35 #[.agg #[.int .i64 (h.op), sS (h.field), sS (h.text), .int .i64 (h.edits), .int .i64 (h.exact), .int .u64 (h.lo), .int .u64 (h.hi), v]] w (fun e w' => e = .returned (iN (deepQ q)) ∧ Mem [] w w' [])) {w : World} (q : Q) (h : Hd) (he : h = q.h) (v : Value) (hq : RdQ w q v) (hb : bulkQ q ≤ 1048576) (hN : bulkQ q = N) :
  Calls Tryz.prog 35 #[.agg #[.int .i64 (h.op), sS (h.field), sS (h.text), .int .i64 (h.edits), .int .i64 (h.exact), .int .u64 (h.lo), .int .u64 (h.hi), v]] w (fun e w' => e = .returned (iN (deepQ q)) ∧ Mem [] w w' []) := by
 obtain ⟨L, hr, hl, hh, hs⟩ := hq.inv
 have hbl : bulkL q.l + q.h.field.length + q.h.text.length + 1 = bulkQ q := by cases q; rw [bulkQ_mk]; rfl
 have hln := bulk_len q.l
 refine xe 25 Tryz.func35 (fun R hR => ?_)
 have hM0 := Mem.start w
 refine xx 2 (m_box (T := 25) (k := 8) (u := .agg #[.int .i64 (h.op), sS (h.field), sS (h.text), .int .i64 (h.edits), .int .i64 (h.exact), .int .u64 (h.lo), .int .u64 (h.hi), v]) rfl rfl hM0) (fun b1 w2 hM4 => ?_)
 exact xl 13 (deep_c_L N ih q h he v hq hb L hr hl hh hs b1  hN R hR (L.length + 1) 0 w2 (Nat.zero_le _) ((hM4.sub (sK sN))) (by omega))

theorem deep_c_n : ∀ (N : Nat), ∀ (q : Q), bulkQ q ≤ N → ∀ {w : World} (h : Hd) (he : h = q.h) (v : Value) (hq : RdQ w q v) (hb : bulkQ q ≤ 1048576) , Calls Tryz.prog 35 #[.agg #[.int .i64 (h.op), sS (h.field), sS (h.text), .int .i64 (h.edits), .int .i64 (h.exact), .int .u64 (h.lo), .int .u64 (h.hi), v]] w (fun e w' => e = .returned (iN (deepQ q)) ∧ Mem [] w w' []) := by
 intro N
 induction N with
 | zero => intro q hn; have := bulk_pos q; omega
 | succ N ihn => intro q hn w h he v hq hb; exact deep_c_s (bulkQ q) (fun c hc => ihn c (by omega)) q h he v hq hb rfl

theorem deep_c {w : World} (q : Q) (h : Hd) (he : h = q.h) (v : Value) (hq : RdQ w q v) (hb : bulkQ q ≤ 1048576)  :
  Calls Tryz.prog 35 #[.agg #[.int .i64 (h.op), sS (h.field), sS (h.text), .int .i64 (h.edits), .int .i64 (h.exact), .int .u64 (h.lo), .int .u64 (h.hi), v]] w (fun e w' => e = .returned (iN (deepQ q)) ∧ Mem [] w w' []) := deep_c_n (bulkQ q) q (Nat.le_refl _) h he v hq hb


end Go.Proofs.YthpodbngljfdmaaGreatDoor


namespace Go.Proofs.YthpodbngljfdmaaGreatDoor
open Go Go.Gw Go.UtfP Go.TokP Go.QryP Go.RowKit
set_option linter.unusedVariables false
set_option linter.unusedSimpArgs false
set_option maxRecDepth 20000
theorem pE22 : Plain Tryz.prog 22 := ⟨.int .u64, by kernel_rfl, (fun _ h => by cases h), (fun _ _ h => by cases h)⟩
theorem oT68 : ObjT Tryz.prog 68 7 (.agg #[.int .i64 0, .string (sb ([])), .string (sb ([])), .int .i64 0, .int .i64 0, .int .u64 0, .int .u64 0]) := ⟨⟨_, rfl, by kernel_rfl, by kernel_rfl⟩, rfl⟩
theorem aE68 : Agged Tryz.prog 68 7 := ⟨⟨_, Tryz.underlying68, .inl ⟨_, rfl⟩⟩, _, rfl, by kernel_rfl⟩


set_option maxHeartbeats 400000 in
theorem flat_c {w : World} (h : Hd) (v : Value) :
  Calls Tryz.prog 47 #[.agg #[.int .i64 (h.op), sS (h.field), sS (h.text), .int .i64 (h.edits), .int .i64 (h.exact), .int .u64 (h.lo), .int .u64 (h.hi), v]] w (fun e w' => e = .returned (.agg #[.int .i64 (h.op), sS (h.field), sS (h.text), .int .i64 (h.edits), .int .i64 (h.exact), .int .u64 (h.lo), .int .u64 (h.hi)]) ∧ Mem [] w w' []) := by
 refine xe 18 Tryz.func47 (fun R hR => ?_)
 have hM0 := Mem.start w
 refine xx 2 (m_box (T := 25) (k := 8) (u := .agg #[.int .i64 (h.op), sS (h.field), sS (h.text), .int .i64 (h.edits), .int .i64 (h.exact), .int .u64 (h.lo), .int .u64 (h.hi), v]) rfl rfl hM0) (fun b1 w2 hM4 => ?_)
 refine xx 0 (m_alloc oT68 hM4) (fun b6 w7 hM9 => ?_)
 refine xv 4 (c_load pE3 (hM9.rd 1 rfl) (cel_obj b1 0) rfl) ?_
 refine xv 1 (c_load pE9 (hM9.rd 1 rfl) (cel_obj b1 1) rfl) ?_
 refine xv 1 (c_load pE9 (hM9.rd 1 rfl) (cel_obj b1 2) rfl) ?_
 refine xv 1 (c_load pE3 (hM9.rd 1 rfl) (cel_obj b1 3) rfl) ?_
 refine xv 1 (c_load pE3 (hM9.rd 1 rfl) (cel_obj b1 4) rfl) ?_
 refine xv 1 (c_load pE22 (hM9.rd 1 rfl) (cel_obj b1 5) rfl) ?_
 refine xv 1 (c_load pE22 (hM9.rd 1 rfl) (cel_obj b1 6) rfl) ?_
 refine xst 1 (c_stores (ys := [.int .i64 (h.op), sS (h.field), sS (h.text), .int .i64 (h.edits), .int .i64 (h.exact), .int .u64 (h.lo), .int .u64 (h.hi)]) aE68 hM9 0 rfl (cel_obj b6 0) rfl (by decide) (oneL rfl)) (fun w11 hM13 => ?_)
 exact xrc 1 (v := .agg #[.int .i64 (h.op), sS (h.field), sS (h.text), .int .i64 (h.edits), .int .i64 (h.exact), .int .u64 (h.lo), .int .u64 (h.hi)]) Tryz.func47 (ResC.cell (c := 2) (by kernel_rfl) (show (Instr.loadAt 68 (pq b6)).run Tryz.prog w11 = .ok (.agg #[.int .i64 (h.op), sS (h.field), sS (h.text), .int .i64 (h.edits), .int .i64 (h.exact), .int .u64 (h.lo), .int .u64 (h.hi)]) w11 from c_loads (ys := [.int .i64 (h.op), sS (h.field), sS (h.text), .int .i64 (h.edits), .int .i64 (h.exact), .int .u64 (h.lo), .int .u64 (h.hi)]) aE68 (hM13.rd 0 rfl) (cel_obj b6 0) rfl (lq rfl)) ResC.nil) hR (⟨rfl, hM13.sub sN⟩)


end Go.Proofs.YthpodbngljfdmaaGreatDoor


namespace Go.Proofs.YthpodbngljfdmaaGreatDoor
open Go Go.Gw Go.UtfP Go.TokP Go.QryP Go.RowKit
set_option linter.unusedVariables false
set_option linter.unusedSimpArgs false
set_option maxRecDepth 20000


set_option maxHeartbeats 2000000 in
theorem rsame_c_L (N : Nat) (ih : ∀ (qa : Q), bulkQ qa < N → ∀ {w : World} (ha : Hd) (hea : ha = qa.h) (va : Value) (hqa : RdQ w qa va) (hba : bulkQ qa ≤ 1048576) (qb : Q) (hb : Hd) (heb : hb = qb.h) (vb : Value) (hqb : RdQ w qb vb) (hbb : bulkQ qb ≤ 1048576) , Calls Tryz.prog 13 #[.agg #[.int .i64 (ha.op), sS (ha.field), sS (ha.text), .int .i64 (ha.edits), .int .i64 (ha.exact), .int .u64 (ha.lo), .int .u64 (ha.hi), va], .agg #[.int .i64 (hb.op), sS (hb.field), sS (hb.text), .int .i64 (hb.edits), .int .i64 (hb.exact), .int .u64 (hb.lo), .int .u64 (hb.hi), vb]] w (fun e w' => e = .returned (.bool (sameQ qa qb)) ∧ Mem [] w w' [])) {w0 : World} (qa : Q) (ha : Hd) (hea : ha = qa.h) (va : Value) (hqa : RdQ w0 qa va) (hba : bulkQ qa ≤ 1048576) (qb : Q) (hb : Hd) (heb : hb = qb.h) (vb : Value) (hqb : RdQ w0 qb vb) (hbb : bulkQ qb ≤ 1048576) (La : List QN) (hra : Rd w0 8 va La.length (recs qnC La)) (hla : La.length = qa.l.length) (hha : ∀ j, j < qa.l.length → (La.getD j qz).h = (qa.l.getD j q0).h) (hsa : ∀ j, j < qa.l.length → RdQ w0 (qa.l.getD j q0) (La.getD j qz).parts) (Lb : List QN) (hrb : Rd w0 8 vb Lb.length (recs qnC Lb)) (hlb : Lb.length = qb.l.length) (hhb : ∀ j, j < qb.l.length → (Lb.getD j qz).h = (qb.l.getD j q0).h) (hsb : ∀ j, j < qb.l.length → RdQ w0 (qb.l.getD j q0) (Lb.getD j qz).parts) (b1 b2 : Nat) (hN : bulkQ qa = N) (hLL : La.length = Lb.length) (R : Ending → World → Prop) (hR : R = (fun e w' => e = .returned (.bool (sameQ qa qb)) ∧ Mem [] w0 w' [])) : ∀ (M_ : Nat) (i : Nat) (w : World) (hi : i ≤ La.length) (hS : sameL (qa.l.drop i) (qb.l.drop i) = sameQ qa qb) (hM : Mem [] w0 w [⟨25, 8, (obj b1), 1, [.int .i64 (ha.op), sS (ha.field), sS (ha.text), .int .i64 (ha.edits), .int .i64 (ha.exact), .int .u64 (ha.lo), .int .u64 (ha.hi), va]⟩, ⟨25, 8, (obj b2), 1, [.int .i64 (hb.op), sS (hb.field), sS (hb.text), .int .i64 (hb.edits), .int .i64 (hb.exact), .int .u64 (hb.lo), .int .u64 (hb.hi), vb]⟩]) (hN : La.length - i < M_), GoS Tryz.prog 13 R 81 [iC Tryz.f13 [1,1,0,1,0,0], iL Tryz.f13 [1,1,0,1,0,0], .inBlock 0, iC Tryz.f13 [1,1,1]] [(2, pq b1), (3, pq b2), (5, iN i)] w := by
 intro M_
 induction M_ with
 | zero => intro i w hi hS hM hN; exact absurd hN (Nat.not_lt_zero _)
 | succ M_ ih_ =>
  intro i w hi hS hM hN
  have hbla : bulkL qa.l + qa.h.field.length + qa.h.text.length + 1 = bulkQ qa := by cases qa; rw [bulkQ_mk]; rfl
  have hlna := bulk_len qa.l
  have hblb : bulkL qb.l + qb.h.field.length + qb.h.text.length + 1 = bulkQ qb := by cases qb; rw [bulkQ_mk]; rfl
  have hlnb := bulk_len qb.l
  refine xs ?_
  refine xv 5 (c_load pE23 (hM.rd 0 rfl) (cel_obj b1 7) rfl) ?_
  refine xv 0 (f_slen sT23 (hra.kept0 hM.kept) 3 w) ?_
  refine xc 2 (((i : Nat) : Int) < (((List.length La) : Nat) : Int)) (fun h3p => ?_) (fun h3p => ?_)
  ·
   refine xh 4 [] hM (sK (sK sR)) (fun w5 hM6 hS7 => ?_)
   refine yl [0] 1 hS7 pE23 0 rfl (cel_obj b1 7) rfl ?_
   obtain ⟨p9, hp10, hq11⟩ := rd_at (i := ((i : Nat) : Int)) sT23 (hra.kept0 hS7.kept) i (by omega) (by first | omega | (dsimp only; omega))
   refine yv [2] 3 (fun W_ hW_ => hq11 W_ .i64) hS7 ?_
   refine yv [] 4 (fun W_ hW_ => (show (Instr.loadAt 25 (.pointer (some p9))).run Tryz.prog W_ = .ok (.agg #[.int .i64 ((List.getD La i qz).h.op), sS ((List.getD La i qz).h.field), sS ((List.getD La i qz).h.text), .int .i64 ((List.getD La i qz).h.edits), .int .i64 ((List.getD La i qz).h.exact), .int .u64 ((List.getD La i qz).h.lo), .int .u64 ((List.getD La i qz).h.hi), ((List.getD La i qz).parts)]) W_ from r_loads (f := qnC) (l := La) aE25 (hra.kept0 hW_.kept) qnC_len hp10 (by first | omega | (dsimp only; omega)) qz)) hS7 ?_
   refine yl [5] 6 hS7 pE23 1 rfl (cel_obj b2 7) rfl ?_
   obtain ⟨p12, hp13, hq14⟩ := rd_at (i := ((i : Nat) : Int)) sT23 (hrb.kept0 hS7.kept) i (by omega) (by first | omega | (dsimp only; omega))
   refine yv [7] 8 (fun W_ hW_ => hq14 W_ .i64) hS7 ?_
   refine yv [] 9 (fun W_ hW_ => (show (Instr.loadAt 25 (.pointer (some p12))).run Tryz.prog W_ = .ok (.agg #[.int .i64 ((List.getD Lb i qz).h.op), sS ((List.getD Lb i qz).h.field), sS ((List.getD Lb i qz).h.text), .int .i64 ((List.getD Lb i qz).h.edits), .int .i64 ((List.getD Lb i qz).h.exact), .int .u64 ((List.getD Lb i qz).h.lo), .int .u64 ((List.getD Lb i qz).h.hi), ((List.getD Lb i qz).parts)]) W_ from r_loads (f := qnC) (l := Lb) aE25 (hrb.kept0 hW_.kept) qnC_len hp13 (by first | omega | (dsimp only; omega)) qz)) hS7 ?_
   have hkb18 := bulk_kid (l := qa.l) (i := i) (by omega)
   have hks19 := size_le (List.getD qa.l i q0)
   have hbs20 := bulk_step (l := qa.l) (i := i) (by omega)
   have hkb21 := bulk_kid (l := qb.l) (i := i) (by omega)
   have hks22 := size_le (List.getD qb.l i q0)
   have hbs23 := bulk_step (l := qb.l) (i := i) (by omega)
   refine yck [] 10 (ih (List.getD qa.l i q0) (by omega) ((List.getD La i qz).h) (hha i (by omega)) ((List.getD La i qz).parts) ((hsa i (by omega)).kept hM6.kept) (by omega) (List.getD qb.l i q0) ((List.getD Lb i qz).h) (hhb i (by omega)) ((List.getD Lb i qz).parts) ((hsb i (by omega)).kept hM6.kept) (by omega)) hS7 (fun w15 m16 => ?_)
   have hM17 : Mem [] w0 w15 [⟨25, 8, (obj b1), 1, [.int .i64 (ha.op), sS (ha.field), sS (ha.text), .int .i64 (ha.edits), .int .i64 (ha.exact), .int .u64 (ha.lo), .int .u64 (ha.hi), va]⟩, ⟨25, 8, (obj b2), 1, [.int .i64 (hb.op), sS (hb.field), sS (hb.text), .int .i64 (hb.edits), .int .i64 (hb.exact), .int .u64 (hb.lo), .int .u64 (hb.hi), vb]⟩] := Mem.join (R := []) hM6 m16
   have hS24 := hM17.sub (sK (sK sR))
   refine ⟨hS24, ?_⟩
   refine ydp [11] hS24 ?_
   refine xb 0 (!(sameQ (List.getD qa.l i q0) (List.getD qb.l i q0))) (fun h25 => ?_) (fun h25 => ?_)
   ·
    have hM26 := hM17.sub (sD (sD sR))
    exact xr 4 (v := .bool false) Tryz.func13 hR ⟨ret_bool (by rw [← hS, same_stepL (i := i) (by omega) (by omega), (show sameQ (List.getD qa.l i q0) (List.getD qb.l i q0) = false by simpa using h25)]; rfl), hM26.sub sN⟩
   ·
    refine xa 4 ((i : Nat) : Int) 1 (((i + 1) : Nat) : Int) ?_
    exact xl 3 (ih_ (i + 1) _ (by omega) (by rw [← hS, same_stepL (i := i) (by omega) (by omega), (show sameQ (List.getD qa.l i q0) (List.getD qb.l i q0) = true by simpa using h25)]; rfl) (hM17.sub (sK (sK sN))) (by omega))
  ·
   have hM4 := hM.sub (sD (sD sR))
   exact xr 5 (v := .bool true) Tryz.func13 hR ⟨ret_bool (by rw [← hS, same_end (by omega) (by omega)]), hM4.sub sN⟩

set_option maxHeartbeats 2000000 in
theorem rsame_c_s (N : Nat) (ih : ∀ (qa : Q), bulkQ qa < N → ∀ {w : World} (ha : Hd) (hea : ha = qa.h) (va : Value) (hqa : RdQ w qa va) (hba : bulkQ qa ≤ 1048576) (qb : Q) (hb : Hd) (heb : hb = qb.h) (vb : Value) (hqb : RdQ w qb vb) (hbb : bulkQ qb ≤ 1048576) , Calls Tryz.prog 13 #[.agg #[.int .i64 (ha.op), sS (ha.field), sS (ha.text), .int .i64 (ha.edits), .int .i64 (ha.exact), .int .u64 (ha.lo), .int .u64 (ha.hi), va], .agg #[.int .i64 (hb.op), sS (hb.field), sS (hb.text), .int .i64 (hb.edits), .int .i64 (hb.exact), .int .u64 (hb.lo), .int .u64 (hb.hi), vb]] w (fun e w' => e = .returned (.bool (sameQ qa qb)) ∧ Mem [] w w' [])) {w : World} (qa : Q) (ha : Hd) (hea : ha = qa.h) (va : Value) (hqa : RdQ w qa va) (hba : bulkQ qa ≤ 1048576) (qb : Q) (hb : Hd) (heb : hb = qb.h) (vb : Value) (hqb : RdQ w qb vb) (hbb : bulkQ qb ≤ 1048576) (hN : bulkQ qa = N) :
  Calls Tryz.prog 13 #[.agg #[.int .i64 (ha.op), sS (ha.field), sS (ha.text), .int .i64 (ha.edits), .int .i64 (ha.exact), .int .u64 (ha.lo), .int .u64 (ha.hi), va], .agg #[.int .i64 (hb.op), sS (hb.field), sS (hb.text), .int .i64 (hb.edits), .int .i64 (hb.exact), .int .u64 (hb.lo), .int .u64 (hb.hi), vb]] w (fun e w' => e = .returned (.bool (sameQ qa qb)) ∧ Mem [] w w' []) := by
 obtain ⟨La, hra, hla, hha, hsa⟩ := hqa.inv
 have hbla : bulkL qa.l + qa.h.field.length + qa.h.text.length + 1 = bulkQ qa := by cases qa; rw [bulkQ_mk]; rfl
 have hlna := bulk_len qa.l
 obtain ⟨Lb, hrb, hlb, hhb, hsb⟩ := hqb.inv
 have hblb : bulkL qb.l + qb.h.field.length + qb.h.text.length + 1 = bulkQ qb := by cases qb; rw [bulkQ_mk]; rfl
 have hlnb := bulk_len qb.l
 refine xe 81 Tryz.func13 (fun R hR => ?_)
 have hM0 := Mem.start w
 refine xx 2 (m_box (T := 25) (k := 8) (u := .agg #[.int .i64 (ha.op), sS (ha.field), sS (ha.text), .int .i64 (ha.edits), .int .i64 (ha.exact), .int .u64 (ha.lo), .int .u64 (ha.hi), va]) rfl rfl hM0) (fun b1 w2 hM4 => ?_)
 refine xx 0 (m_box (T := 25) (k := 8) (u := .agg #[.int .i64 (hb.op), sS (hb.field), sS (hb.text), .int .i64 (hb.edits), .int .i64 (hb.exact), .int .u64 (hb.lo), .int .u64 (hb.hi), vb]) rfl rfl hM4) (fun b6 w7 hM9 => ?_)
 refine xv 6 (c_load pE3 (hM9.rd 1 rfl) (cel_obj b1 0) rfl) ?_
 refine xv 1 (c_load pE3 (hM9.rd 0 rfl) (cel_obj b6 0) rfl) ?_
 refine xfn 2 11 (ha.op = hb.op) (fun h15p => ?_) (fun h15p => ?_)
 ·
  have hM40 := hM9.sub (sD (sD sR))
  exact xr 56 (v := .bool false) Tryz.func13 hR ⟨ret_bool (same_ne (by rw [← hea, ← heb]; exact fun z => h15p (by rw [z]))).symm, hM40.sub sN⟩
 ·
  refine xv 1 (c_load pE9 (hM9.rd 1 rfl) (cel_obj b1 1) rfl) ?_
  refine xv 1 (c_load pE9 (hM9.rd 0 rfl) (cel_obj b6 1) rfl) ?_
  refine xqn 0 (ha.field) (hb.field) ?_
  refine xfn 2 18 (ha.field = hb.field) (fun h19p => ?_) (fun h19p => ?_)
  ·
   have hM41 := hM9.sub (sD (sD sR))
   exact xr 49 (v := .bool false) Tryz.func13 hR ⟨ret_bool (same_ne (by rw [← hea, ← heb]; exact fun z => h19p (by rw [z]))).symm, hM41.sub sN⟩
  ·
   refine xv 1 (c_load pE9 (hM9.rd 1 rfl) (cel_obj b1 2) rfl) ?_
   refine xv 1 (c_load pE9 (hM9.rd 0 rfl) (cel_obj b6 2) rfl) ?_
   refine xqn 0 (ha.text) (hb.text) ?_
   refine xfn 2 25 (ha.text = hb.text) (fun h23p => ?_) (fun h23p => ?_)
   ·
    have hM42 := hM9.sub (sD (sD sR))
    exact xr 42 (v := .bool false) Tryz.func13 hR ⟨ret_bool (same_ne (by rw [← hea, ← heb]; exact fun z => h23p (by rw [z]))).symm, hM42.sub sN⟩
   ·
    refine xv 1 (c_load pE3 (hM9.rd 1 rfl) (cel_obj b1 3) rfl) ?_
    refine xv 1 (c_load pE3 (hM9.rd 0 rfl) (cel_obj b6 3) rfl) ?_
    refine xfn 3 32 (ha.edits = hb.edits) (fun h26p => ?_) (fun h26p => ?_)
    ·
     have hM43 := hM9.sub (sD (sD sR))
     exact xr 35 (v := .bool false) Tryz.func13 hR ⟨ret_bool (same_ne (by rw [← hea, ← heb]; exact fun z => h26p (by rw [z]))).symm, hM43.sub sN⟩
    ·
     refine xv 1 (c_load pE3 (hM9.rd 1 rfl) (cel_obj b1 4) rfl) ?_
     refine xv 1 (c_load pE3 (hM9.rd 0 rfl) (cel_obj b6 4) rfl) ?_
     refine xfn 3 39 (ha.exact = hb.exact) (fun h29p => ?_) (fun h29p => ?_)
     ·
      have hM44 := hM9.sub (sD (sD sR))
      exact xr 28 (v := .bool false) Tryz.func13 hR ⟨ret_bool (same_ne (by rw [← hea, ← heb]; exact fun z => h29p (by rw [z]))).symm, hM44.sub sN⟩
     ·
      refine xv 1 (c_load pE22 (hM9.rd 1 rfl) (cel_obj b1 5) rfl) ?_
      refine xv 1 (c_load pE22 (hM9.rd 0 rfl) (cel_obj b6 5) rfl) ?_
      refine xfn 3 46 (ha.lo = hb.lo) (fun h32p => ?_) (fun h32p => ?_)
      ·
       have hM45 := hM9.sub (sD (sD sR))
       exact xr 21 (v := .bool false) Tryz.func13 hR ⟨ret_bool (same_ne (by rw [← hea, ← heb]; exact fun z => h32p (by rw [z]))).symm, hM45.sub sN⟩
      ·
       refine xv 1 (c_load pE22 (hM9.rd 1 rfl) (cel_obj b1 6) rfl) ?_
       refine xv 1 (c_load pE22 (hM9.rd 0 rfl) (cel_obj b6 6) rfl) ?_
       refine xfn 3 53 (ha.hi = hb.hi) (fun h35p => ?_) (fun h35p => ?_)
       ·
        have hM46 := hM9.sub (sD (sD sR))
        exact xr 14 (v := .bool false) Tryz.func13 hR ⟨ret_bool (same_ne (by rw [← hea, ← heb]; exact fun z => h35p (by rw [z]))).symm, hM46.sub sN⟩
       ·
        refine xv 1 (c_load pE23 (hM9.rd 1 rfl) (cel_obj b1 7) rfl) ?_
        refine xv 0 (f_slen sT23 (hra.kept0 hM9.kept) 3 w7) ?_
        refine xv 1 (c_load pE23 (hM9.rd 0 rfl) (cel_obj b6 7) rfl) ?_
        refine xv 0 (f_slen sT23 (hrb.kept0 hM9.kept) 3 w7) ?_
        refine xcn 3 ((((List.length La) : Nat) : Int) = (((List.length Lb) : Nat) : Int)) (fun h47p => ?_) (fun h47p => ?_)
        ·
         have hM48 := hM9.sub (sD (sD sR))
         exact xr 4 (v := .bool false) Tryz.func13 hR ⟨ret_bool (same_nl (by omega)).symm, hM48.sub sN⟩
        ·
         have hM49 : Mem [] w w7 [⟨25, 8, (obj b1), 1, [.int .i64 (ha.op), sS (ha.field), sS (ha.text), .int .i64 (ha.edits), .int .i64 (ha.exact), .int .u64 (ha.lo), .int .u64 (ha.hi), va]⟩, ⟨25, 8, (obj b6), 1, [.int .i64 (hb.op), sS (hb.field), sS (hb.text), .int .i64 (hb.edits), .int .i64 (hb.exact), .int .u64 (hb.lo), .int .u64 (hb.hi), vb]⟩] := hM9.perm (pS pR)
         exact xl 8 (rsame_c_L N ih qa ha hea va hqa hba qb hb heb vb hqb hbb La hra hla hha hsa Lb hrb hlb hhb hsb b1 b6 hN (by omega) R hR (La.length + 1) 0 w7 (Nat.zero_le _) (same_go (by rw [← hea, ← heb]; exact (hd_ext h15p h19p h23p h26p h29p h32p h35p))) (hM49.sub (sK (sK sN))) (by omega))

theorem rsame_c_n : ∀ (N : Nat), ∀ (qa : Q), bulkQ qa ≤ N → ∀ {w : World} (ha : Hd) (hea : ha = qa.h) (va : Value) (hqa : RdQ w qa va) (hba : bulkQ qa ≤ 1048576) (qb : Q) (hb : Hd) (heb : hb = qb.h) (vb : Value) (hqb : RdQ w qb vb) (hbb : bulkQ qb ≤ 1048576) , Calls Tryz.prog 13 #[.agg #[.int .i64 (ha.op), sS (ha.field), sS (ha.text), .int .i64 (ha.edits), .int .i64 (ha.exact), .int .u64 (ha.lo), .int .u64 (ha.hi), va], .agg #[.int .i64 (hb.op), sS (hb.field), sS (hb.text), .int .i64 (hb.edits), .int .i64 (hb.exact), .int .u64 (hb.lo), .int .u64 (hb.hi), vb]] w (fun e w' => e = .returned (.bool (sameQ qa qb)) ∧ Mem [] w w' []) := by
 intro N
 induction N with
 | zero => intro qa hn; have := bulk_pos qa; omega
 | succ N ihn => intro qa hn w ha hea va hqa hba qb hb heb vb hqb hbb; exact rsame_c_s (bulkQ qa) (fun c hc => ihn c (by omega)) qa ha hea va hqa hba qb hb heb vb hqb hbb rfl

theorem rsame_c {w : World} (qa : Q) (ha : Hd) (hea : ha = qa.h) (va : Value) (hqa : RdQ w qa va) (hba : bulkQ qa ≤ 1048576) (qb : Q) (hb : Hd) (heb : hb = qb.h) (vb : Value) (hqb : RdQ w qb vb) (hbb : bulkQ qb ≤ 1048576)  :
  Calls Tryz.prog 13 #[.agg #[.int .i64 (ha.op), sS (ha.field), sS (ha.text), .int .i64 (ha.edits), .int .i64 (ha.exact), .int .u64 (ha.lo), .int .u64 (ha.hi), va], .agg #[.int .i64 (hb.op), sS (hb.field), sS (hb.text), .int .i64 (hb.edits), .int .i64 (hb.exact), .int .u64 (hb.lo), .int .u64 (hb.hi), vb]] w (fun e w' => e = .returned (.bool (sameQ qa qb)) ∧ Mem [] w w' []) := rsame_c_n (bulkQ qa) qa (Nat.le_refl _) ha hea va hqa hba qb hb heb vb hqb hbb


end Go.Proofs.YthpodbngljfdmaaGreatDoor


namespace Go.Proofs.YthpodbngljfdmaaGreatDoor
open Go Go.Gw Go.UtfP Go.TokP Go.QryP Go.RowKit
set_option linter.unusedVariables false
set_option linter.unusedSimpArgs false
set_option maxRecDepth 20000

abbrev uQryD0 : List Nat := [1,1,1,1,1,0,1,0,0]
abbrev uQryD1 : List Nat := [1,1,1,1,1,1]
set_option maxHeartbeats 400000 in
theorem name_c_L (s : List UInt8) (hs : s.length ≤ 1048576) (hn : 1 ≤ s.length ∧ s.length ≤ 16) (w : World) (R : Ending → World → Prop) (hR : R = (fun e w' => e = .returned (.bool (nameP s)) ∧ w = w')) : ∀ (N : Nat) (i : Nat) (hi : i ≤ s.length) (hz : ∀ j, j < i → okI (bl s j)) (hN : s.length - i < N), GoS Tryz.prog 45 R 39 [iC Tryz.f45 [1,1,0,1,0,0], iL Tryz.f45 [1,1,0,1,0,0], .inBlock 0, iC Tryz.f45 [1,1,1]] [(0, sS s), (13, iN (List.length s)), (14, iN i)] w := by
 intro N
 induction N with
 | zero => intro i hi hz hN; exact absurd hN (Nat.not_lt_zero _)
 | succ N ih =>
  intro i hi hz hN
  have hb := bl_bd s i
  refine xs ?_
  refine xc 5 (((i : Nat) : Int) < (((List.length s) : Nat) : Int)) (fun h1p => ?_) (fun h1p => ?_)
  ·
   have hb2 := bl_bd s i
   refine xi 12 s ((i : Nat) : Int) i ?_
   refine xfc 7 22 ((bl s i) < 97) (fun h4p => ?_) (fun h4p => ?_)
   ·
    refine xfc 7 29 ((bl s i) < 48) (fun h5p => ?_) (fun h5p => ?_)
    ·
     refine xcn 9 ((bl s i) = 95) (fun h10p => ?_) (fun h10p => ?_)
     ·
      exact xr 4 (v := .bool false) Tryz.func45 hR ⟨ret_bool (name_no (j := i) (by omega) (by unfold okI; omega)).symm, rfl⟩
     ·
      refine xa 3 ((i : Nat) : Int) 1 (((i + 1) : Nat) : Int) ?_
      exact xl 3 (ih (i + 1) (by omega) (fun j hj => by rcases Nat.lt_succ_iff_lt_or_eq.1 hj with g | g; exact hz j g; subst g; unfold okI; omega) (by omega))
    ·
     refine xfc 5 34 ((bl s i) > 57) (fun h6p => ?_) (fun h6p => ?_)
     ·
      refine xcn 4 ((bl s i) = 95) (fun h12p => ?_) (fun h12p => ?_)
      ·
       exact xr 4 (v := .bool false) Tryz.func45 hR ⟨ret_bool (name_no (j := i) (by omega) (by unfold okI; omega)).symm, rfl⟩
      ·
       refine xa 3 ((i : Nat) : Int) 1 (((i + 1) : Nat) : Int) ?_
       exact xl 3 (ih (i + 1) (by omega) (fun j hj => by rcases Nat.lt_succ_iff_lt_or_eq.1 hj with g | g; exact hz j g; subst g; unfold okI; omega) (by omega))
     ·
      refine xa 8 ((i : Nat) : Int) 1 (((i + 1) : Nat) : Int) ?_
      exact xl 3 (ih (i + 1) (by omega) (fun j hj => by rcases Nat.lt_succ_iff_lt_or_eq.1 hj with g | g; exact hz j g; subst g; unfold okI; omega) (by omega))
   ·
    refine xfc 4 26 ((bl s i) > 122) (fun h7p => ?_) (fun h7p => ?_)
    ·
     refine xfc 3 29 ((bl s i) < 48) (fun h8p => ?_) (fun h8p => ?_)
     ·
      refine xcn 9 ((bl s i) = 95) (fun h15p => ?_) (fun h15p => ?_)
      ·
       exact xr 4 (v := .bool false) Tryz.func45 hR ⟨ret_bool (name_no (j := i) (by omega) (by unfold okI; omega)).symm, rfl⟩
      ·
       refine xa 3 ((i : Nat) : Int) 1 (((i + 1) : Nat) : Int) ?_
       exact xl 3 (ih (i + 1) (by omega) (fun j hj => by rcases Nat.lt_succ_iff_lt_or_eq.1 hj with g | g; exact hz j g; subst g; unfold okI; omega) (by omega))
     ·
      refine xfc 5 34 ((bl s i) > 57) (fun h9p => ?_) (fun h9p => ?_)
      ·
       refine xcn 4 ((bl s i) = 95) (fun h17p => ?_) (fun h17p => ?_)
       ·
        exact xr 4 (v := .bool false) Tryz.func45 hR ⟨ret_bool (name_no (j := i) (by omega) (by unfold okI; omega)).symm, rfl⟩
       ·
        refine xa 3 ((i : Nat) : Int) 1 (((i + 1) : Nat) : Int) ?_
        exact xl 3 (ih (i + 1) (by omega) (fun j hj => by rcases Nat.lt_succ_iff_lt_or_eq.1 hj with g | g; exact hz j g; subst g; unfold okI; omega) (by omega))
      ·
       refine xa 8 ((i : Nat) : Int) 1 (((i + 1) : Nat) : Int) ?_
       exact xl 3 (ih (i + 1) (by omega) (fun j hj => by rcases Nat.lt_succ_iff_lt_or_eq.1 hj with g | g; exact hz j g; subst g; unfold okI; omega) (by omega))
    ·
     refine xa 16 ((i : Nat) : Int) 1 (((i + 1) : Nat) : Int) ?_
     exact xl 3 (ih (i + 1) (by omega) (fun j hj => by rcases Nat.lt_succ_iff_lt_or_eq.1 hj with g | g; exact hz j g; subst g; unfold okI; omega) (by omega))
  ·
   exact xr 5 (v := .bool true) Tryz.func45 hR ⟨ret_bool (name_yes (by omega) (fun j hj => hz j (by omega))).symm, rfl⟩

set_option maxHeartbeats 400000 in
theorem name_c (s : List UInt8) (hs : s.length ≤ 1048576) (w : World) :
  Calls Tryz.prog 45 #[sS s] w (fun e w' => e = .returned (.bool (nameP s)) ∧ w = w') := by
 refine xe 39 Tryz.func45 (fun R hR => ?_)
 refine xq 8 s ([]) ?_
 refine xfc 1 7 (s = []) (fun h2p => ?_) (fun h2p => ?_)
 ·
  exact xr 10 (v := .bool false) Tryz.func45 hR ⟨ret_bool (name_len (by first | omega | (rw [h2p]; decide))).symm, rfl⟩
 ·
  refine xn 1 s ?_
  refine xc 3 (((s.length : Nat) : Int) > 16) (fun h4p => ?_) (fun h4p => ?_)
  ·
   exact xr 4 (v := .bool false) Tryz.func45 hR ⟨ret_bool (name_len (by first | omega | (rw [h2p]; decide))).symm, rfl⟩
  ·
   refine xn 5 s ?_
   exact xl 4 (name_c_L s hs ⟨Nat.pos_of_ne_zero (fun z => h2p (List.eq_nil_of_length_eq_zero z)), by omega⟩ w R hR (s.length + 1) 0 (Nat.zero_le _) (fun j hj => absurd hj (Nat.not_lt_zero _)) (by omega))

set_option maxHeartbeats 400000 in
theorem rname_c_L (s : List UInt8) (hs : s.length ≤ 1048576) (w : World) (R : Ending → World → Prop) (hR : R = (fun e w' => e = .returned (.bool (nameP s)) ∧ w = w')) : ∀ (N : Nat) (i : Nat) (hi : i ≤ s.length) (hz : ∀ j, j < i → okI (bl s j)) (hN : s.length - i < N), GoS Tryz.prog 72 R 41 [iC Tryz.f72 [1,0,1,0,0], iL Tryz.f72 [1,0,1,0,0], .inBlock 0, iC Tryz.f72 [1,1]] [(0, sS s), (3, iN i)] w := by
 intro N
 induction N with
 | zero => intro i hi hz hN; exact absurd hN (Nat.not_lt_zero _)
 | succ N ih =>
  intro i hi hz hN
  have hb := bl_bd s i
  refine xs ?_
  refine xn 5 s ?_
  refine xc 2 (((i : Nat) : Int) < ((s.length : Nat) : Int)) (fun h2p => ?_) (fun h2p => ?_)
  ·
   have hb6 := bl_bd s i
   refine xi 7 s ((i : Nat) : Int) i ?_
   refine xfc 7 16 ((bl s i) ≥ 97) (fun h8p => ?_) (fun h8p => ?_)
   ·
    refine xfc 4 20 ((bl s i) ≤ 122) (fun h9p => ?_) (fun h9p => ?_)
    ·
     refine xa 18 ((i : Nat) : Int) 1 (((i + 1) : Nat) : Int) ?_
     exact xl 3 (ih (i + 1) (by omega) (fun j hj => by rcases Nat.lt_succ_iff_lt_or_eq.1 hj with g | g; exact hz j g; subst g; unfold okI; omega) (by omega))
    ·
     refine xfc 3 23 ((bl s i) ≥ 48) (fun h10p => ?_) (fun h10p => ?_)
     ·
      refine xfc 5 28 ((bl s i) ≤ 57) (fun h11p => ?_) (fun h11p => ?_)
      ·
       refine xa 10 ((i : Nat) : Int) 1 (((i + 1) : Nat) : Int) ?_
       exact xl 3 (ih (i + 1) (by omega) (fun j hj => by rcases Nat.lt_succ_iff_lt_or_eq.1 hj with g | g; exact hz j g; subst g; unfold okI; omega) (by omega))
      ·
       refine xcn 5 ((bl s i) = 95) (fun h16p => ?_) (fun h16p => ?_)
       ·
        exact xr 4 (v := .bool false) Tryz.func72 hR ⟨ret_bool (name_no (j := i) (by omega) (by unfold okI; omega)).symm, rfl⟩
       ·
        refine xa 4 ((i : Nat) : Int) 1 (((i + 1) : Nat) : Int) ?_
        exact xl 3 (ih (i + 1) (by omega) (fun j hj => by rcases Nat.lt_succ_iff_lt_or_eq.1 hj with g | g; exact hz j g; subst g; unfold okI; omega) (by omega))
     ·
      refine xcn 10 ((bl s i) = 95) (fun h18p => ?_) (fun h18p => ?_)
      ·
       exact xr 4 (v := .bool false) Tryz.func72 hR ⟨ret_bool (name_no (j := i) (by omega) (by unfold okI; omega)).symm, rfl⟩
      ·
       refine xa 4 ((i : Nat) : Int) 1 (((i + 1) : Nat) : Int) ?_
       exact xl 3 (ih (i + 1) (by omega) (fun j hj => by rcases Nat.lt_succ_iff_lt_or_eq.1 hj with g | g; exact hz j g; subst g; unfold okI; omega) (by omega))
   ·
    refine xfc 7 23 ((bl s i) ≥ 48) (fun h12p => ?_) (fun h12p => ?_)
    ·
     refine xfc 5 28 ((bl s i) ≤ 57) (fun h13p => ?_) (fun h13p => ?_)
     ·
      refine xa 10 ((i : Nat) : Int) 1 (((i + 1) : Nat) : Int) ?_
      exact xl 3 (ih (i + 1) (by omega) (fun j hj => by rcases Nat.lt_succ_iff_lt_or_eq.1 hj with g | g; exact hz j g; subst g; unfold okI; omega) (by omega))
     ·
      refine xcn 5 ((bl s i) = 95) (fun h21p => ?_) (fun h21p => ?_)
      ·
       exact xr 4 (v := .bool false) Tryz.func72 hR ⟨ret_bool (name_no (j := i) (by omega) (by unfold okI; omega)).symm, rfl⟩
      ·
       refine xa 4 ((i : Nat) : Int) 1 (((i + 1) : Nat) : Int) ?_
       exact xl 3 (ih (i + 1) (by omega) (fun j hj => by rcases Nat.lt_succ_iff_lt_or_eq.1 hj with g | g; exact hz j g; subst g; unfold okI; omega) (by omega))
    ·
     refine xcn 10 ((bl s i) = 95) (fun h23p => ?_) (fun h23p => ?_)
     ·
      exact xr 4 (v := .bool false) Tryz.func72 hR ⟨ret_bool (name_no (j := i) (by omega) (by unfold okI; omega)).symm, rfl⟩
     ·
      refine xa 4 ((i : Nat) : Int) 1 (((i + 1) : Nat) : Int) ?_
      exact xl 3 (ih (i + 1) (by omega) (fun j hj => by rcases Nat.lt_succ_iff_lt_or_eq.1 hj with g | g; exact hz j g; subst g; unfold okI; omega) (by omega))
  ·
   refine xn 4 s ?_
   refine xfc 2 36 (((s.length : Nat) : Int) ≥ 1) (fun h4p => ?_) (fun h4p => ?_)
   ·
    refine xn 1 s ?_
    exact xr 4 (v := .bool (decide (((s.length : Nat) : Int) ≤ 16))) Tryz.func72 hR ⟨ret_bool (by by_cases g : List.length s ≤ 16; rw [name_yes (by omega) (fun j hj => hz j (by omega)), decide_eq_true (by omega)]; rw [name_len (by omega), decide_eq_false (by omega)]), rfl⟩
   ·
    exact xr 6 (v := .bool false) Tryz.func72 hR ⟨ret_bool (name_len (by omega)).symm, rfl⟩

set_option maxHeartbeats 400000 in
theorem rname_c (s : List UInt8) (hs : s.length ≤ 1048576) (w : World) :
  Calls Tryz.prog 72 #[sS s] w (fun e w' => e = .returned (.bool (nameP s)) ∧ w = w') := by
 refine xe 41 Tryz.func72 (fun R hR => ?_)
 exact xl 11 (rname_c_L s hs w R hR (s.length + 1) 0 (Nat.zero_le _) (fun j hj => absurd hj (Nat.not_lt_zero _)) (by omega))

set_option maxHeartbeats 400000 in
theorem let_c_L2 (s m : List UInt8) (hm : m.length ≤ 1048576) (hd : decE s = 0) (hlong : ¬ 16 < (foldL s).length) (hnone : ¬ (foldL s).length = 0) {w0 : World} (v : Value) (i : Nat) (hi : i < (foldL s).length) (R : Ending → World → Prop) (hR : R = (fun e w' => ∃ v, e = .returned (.tuple #[v, .int .i64 (letP s m)]) ∧ Mem [] w0 w' [⟨3, 1, v, (List.length (letL s m)), (ivals .i64 (letL s m))⟩])) : ∀ (N : Nat) (k : Nat) (w : World) (out : ∀ (w : World), okM (List.getD (foldL s) i 0) m m.length = true → Mem [] w0 w [⟨3, 1, v, (List.length (foldL s)), (ivals .i64 (foldL s))⟩] → GoS Tryz.prog 60 R 53 [iC Tryz.f60 uQryD0, iL Tryz.f60 uQryD0, .inBlock 0, iC Tryz.f60 uQryD1] [(1, sS m), (6, v), (26, v), (27, iN (List.length (foldL s))), (28, iN (i + 1))] w) (hk : k ≤ m.length) (hM : Mem [] w0 w [⟨3, 1, v, (List.length (foldL s)), (ivals .i64 (foldL s))⟩]) (hN : m.length - k < N), GoS Tryz.prog 60 R 53 [iC Tryz.f60 [1,1,1,1,1,0,1,0,0,1,1,0,0,1,1,0,1,0,0], iL Tryz.f60 [1,1,1,1,1,0,1,0,0,1,1,0,0,1,1,0,1,0,0], .inBlock 2, iC Tryz.f60 [1,1,1,1,1,0,1,0,0,1,1,0,0,1,1,1], .inBlock 1, iC Tryz.f60 [1,1,1,1,1,0,1,0,0,1,1,1], iL Tryz.f60 uQryD0, .inBlock 0, iC Tryz.f60 uQryD1] [(1, sS m), (6, v), (9, .int .i64 (List.getD (foldL s) i 0)), (10, .bool (okM (List.getD (foldL s) i 0) m k)), (26, v), (27, iN (List.length (foldL s))), (28, iN i), (35, iN (List.length m)), (36, iN k)] w := by
 intro N
 induction N with
 | zero => intro k w out hk hM hN; exact absurd hN (Nat.not_lt_zero _)
 | succ N ih =>
  intro k w out hk hM hN
  have hb := bl_bd m k
  refine xs ?_
  refine xc 5 (((k : Nat) : Int) < (((List.length m) : Nat) : Int)) (fun h1p => ?_) (fun h1p => ?_)
  ·
   refine xf 11 40 (okM (List.getD (foldL s) i 0) m k) (fun h5 => ?_) (fun h5 => ?_)
   ·
    refine xa 11 ((k : Nat) : Int) 1 (((k + 1) : Nat) : Int) ?_
    exact xl 3 (l := [(1, sS m), (6, v), (9, .int .i64 (List.getD (foldL s) i 0)), (10, .bool true), (26, v), (27, iN (List.length (foldL s))), (28, iN i), (35, iN (List.length m)), (36, iN (k + 1))]) (GoS.cast (by rw [okM_step (show k < m.length by omega), (show okM (List.getD (foldL s) i 0) m k = true by simpa using h5)]; rfl) (ih (k + 1) w out (by omega) (hM.sub (sK sN)) (by omega)))
   ·
    have hb6 := bl_bd m k
    refine xi 3 m ((k : Nat) : Int) k ?_
    refine xcv 0 .u8 .i64 (bl m k) (bl m k) (IntWalk.i64_in _ (by omega)) ?_
    refine xa 6 ((k : Nat) : Int) 1 (((k + 1) : Nat) : Int) ?_
    exact xl 3 (l := [(1, sS m), (6, v), (9, .int .i64 (List.getD (foldL s) i 0)), (10, .bool ((List.getD (foldL s) i 0) == (bl m k))), (26, v), (27, iN (List.length (foldL s))), (28, iN i), (35, iN (List.length m)), (36, iN (k + 1))]) (GoS.cast (by rw [okM_step (show k < m.length by omega), (show okM (List.getD (foldL s) i 0) m k = false by simpa using h5)]; rfl) (ih (k + 1) w out (by omega) (hM.sub (sK sN)) (by omega)))
  ·
   refine xb 6 (!(okM (List.getD (foldL s) i 0) m k)) (fun h2 => ?_) (fun h2 => ?_)
   ·
    have hM3 := hM.sub (sD sR)
    obtain ⟨e1, e2⟩ := let_bad (marks := m) hd hlong (i := i) (by omega) (by rw [← (show k = m.length by omega)]; have z := h2; simpa using z)
    exact xr 5 (v := .tuple #[.slice none 0 0, .int .i64 20]) Tryz.func60 hR ⟨_, by rw [e1], by rw [e2]; exact (hM3.sub sN).nilrow 3 1⟩
   ·
    refine xa 3 ((i : Nat) : Int) 1 (((i + 1) : Nat) : Int) ?_
    exact xl 3 (out w (by rw [← (show k = m.length by omega)]; have z := h2; simpa using z) (hM.sub (sK sN)))

set_option maxHeartbeats 400000 in
theorem let_c_L1 (s m : List UInt8) (hm : m.length ≤ 1048576) (hd : decE s = 0) (hlong : ¬ 16 < (foldL s).length) (hnone : ¬ (foldL s).length = 0) {w0 : World} (v : Value) (R : Ending → World → Prop) (hR : R = (fun e w' => ∃ v, e = .returned (.tuple #[v, .int .i64 (letP s m)]) ∧ Mem [] w0 w' [⟨3, 1, v, (List.length (letL s m)), (ivals .i64 (letL s m))⟩])) : ∀ (N : Nat) (i : Nat) (w : World) (hi : i ≤ (foldL s).length) (hz : ∀ j, j < i → okM (List.getD (foldL s) j 0) m m.length = true) (hM : Mem [] w0 w [⟨3, 1, v, (List.length (foldL s)), (ivals .i64 (foldL s))⟩]) (hN : (foldL s).length - i < N), GoS Tryz.prog 60 R 53 [iC Tryz.f60 uQryD0, iL Tryz.f60 uQryD0, .inBlock 0, iC Tryz.f60 uQryD1] [(1, sS m), (6, v), (26, v), (27, iN (List.length (foldL s))), (28, iN i)] w := by
 intro N
 induction N with
 | zero => intro i w hi hz hM hN; exact absurd hN (Nat.not_lt_zero _)
 | succ N ih =>
  intro i w hi hz hM hN
  refine xs ?_
  refine xc 5 (((i : Nat) : Int) < (((List.length (foldL s)) : Nat) : Int)) (fun h1p => ?_) (fun h1p => ?_)
  ·
   refine xat 5 sT70 (hM.rd 0 rfl) ((i : Nat) : Int) i (fun p2 hp3 => ?_)
   refine xv 0 (at_load pE3 (hM.rd 0 rfl) hp3 (ivals_at (by first | omega | (dsimp only; omega)))) ?_
   refine xka 5 (letter_c (List.getD (foldL s) i 0) w) ?_
   refine xn 6 m ?_
   exact xl 4 (l := [(1, sS m), (6, v), (9, .int .i64 (List.getD (foldL s) i 0)), (10, .bool (letter (List.getD (foldL s) i 0))), (26, v), (27, iN (List.length (foldL s))), (28, iN i), (35, iN m.length), (36, .int .i64 0)]) (GoS.cast (by first | rfl | (rw [okM_zero]; rfl) | (rw [okM_zero])) (let_c_L2 s m hm hd hlong hnone v i (by omega) R hR (m.length + 1) 0 w (fun w ht hM => ih (i + 1) w (by omega) (fun j hj => by rcases Nat.lt_succ_iff_lt_or_eq.1 hj with g | g; exact hz j g; subst g; exact ht) hM (by omega)) (Nat.zero_le _) (hM.sub (sK sN)) (by omega)))
  ·
   obtain ⟨e1, e2⟩ := let_good (marks := m) hd hlong hnone (fun j hj => hz j (by omega))
   exact xr 7 (v := .tuple #[v, .int .i64 0]) Tryz.func60 hR ⟨_, by rw [e1], by rw [e2]; exact hM⟩

set_option maxHeartbeats 400000 in
theorem let_c (s m : List UInt8) (hs : s.length ≤ 1048576) (hm : m.length ≤ 1048576) (w : World) :
  Calls Tryz.prog 60 #[sS s, sS m] w (fun e w' => ∃ v, e = .returned (.tuple #[v, .int .i64 (letP s m)]) ∧ Mem [] w w' [⟨3, 1, v, (List.length (letL s m)), (ivals .i64 (letL s m))⟩]) := by
 refine xe 53 Tryz.func60 (fun R hR => ?_)
 have hM0 := Mem.start w
 refine xkv 8 (folded_c s (by omega) w) (fun v4 w1 m2 => ?_)
 have hM3 := Mem.join hM0 m2
 refine xcn 12 ((decE s) = 0) (fun h5p => ?_) (fun h5p => ?_)
 ·
  have hM6 := hM3.sub (sD sR)
  obtain ⟨e1, e2⟩ := let_err (by omega) (s := s) (marks := m)
  exact xr 6 (v := .tuple #[.slice none 0 0, .int .i64 (decE s)]) Tryz.func60 hR ⟨_, by rw [e1], by rw [e2]; exact (hM6.sub sN).nilrow 3 1⟩
 ·
  refine xv 5 (f_slen sT70 (hM3.rd 0 rfl) 3 w1) ?_
  refine xc 2 ((((List.length (foldL s)) : Nat) : Int) > 16) (fun h8p => ?_) (fun h8p => ?_)
  ·
   have hM9 := hM3.sub (sD sR)
   obtain ⟨e1, e2⟩ := let_long (by omega) (by omega) (s := s) (marks := m)
   exact xr 5 (v := .tuple #[.slice none 0 0, .int .i64 4]) Tryz.func60 hR ⟨_, by rw [e1], by rw [e2]; exact (hM9.sub sN).nilrow 3 1⟩
  ·
   refine xv 5 (f_slen sT70 (hM3.rd 0 rfl) 3 w1) ?_
   refine xc 2 ((((List.length (foldL s)) : Nat) : Int) = 0) (fun h11p => ?_) (fun h11p => ?_)
   ·
    have hM12 := hM3.sub (sD sR)
    obtain ⟨e1, e2⟩ := let_none (by omega) (by omega) (s := s) (marks := m)
    exact xr 5 (v := .tuple #[.slice none 0 0, .int .i64 20]) Tryz.func60 hR ⟨_, by rw [e1], by rw [e2]; exact (hM12.sub sN).nilrow 3 1⟩
   ·
    refine xv 5 (f_slen sT70 (hM3.rd 0 rfl) 3 w1) ?_
    exact xl 4 (let_c_L1 s m hm (by omega) (by omega) (by omega) v4 R hR ((foldL s).length + 1) 0 w1 (Nat.zero_le _) (fun j hj => absurd hj (Nat.not_lt_zero _)) (hM3.sub (sK sN)) (by omega))

set_option maxHeartbeats 400000 in
theorem rlet_c_L2 (s m : List UInt8) (hm : m.length ≤ 1048576) (hd : decE s = 0) (hlong : ¬ 16 < (foldL s).length) (hnone : ¬ (foldL s).length = 0) {w0 : World} (v : Value) (i : Nat) (hi : i < (foldL s).length) (R : Ending → World → Prop) (hR : R = (fun e w' => ∃ v, e = .returned (.tuple #[v, .int .i64 (letP s m)]) ∧ Mem [] w0 w' [⟨3, 1, v, (List.length (letL s m)), (ivals .i64 (letL s m))⟩])) : ∀ (N : Nat) (k : Nat) (w : World) (out : ∀ (w : World), okM (List.getD (foldL s) i 0) m m.length = true → Mem [] w0 w [⟨3, 1, v, (List.length (foldL s)), (ivals .i64 (foldL s))⟩] → GoS Tryz.prog 99 R 57 [iC Tryz.f99 uQryD0, iL Tryz.f99 uQryD0, .inBlock 0, iC Tryz.f99 uQryD1] [(1, sS m), (6, v), (8, iN (i + 1))] w) (hk : k ≤ m.length) (hM : Mem [] w0 w [⟨3, 1, v, (List.length (foldL s)), (ivals .i64 (foldL s))⟩]) (hN : m.length - k < N), GoS Tryz.prog 99 R 57 [iC Tryz.f99 [1,1,1,1,1,0,1,0,0,1,0,0,1,0,1,0,0], iL Tryz.f99 [1,1,1,1,1,0,1,0,0,1,0,0,1,0,1,0,0], .inBlock 2, iC Tryz.f99 [1,1,1,1,1,0,1,0,0,1,0,0,1,1], .inBlock 1, iC Tryz.f99 [1,1,1,1,1,0,1,0,0,1,1], iL Tryz.f99 uQryD0, .inBlock 0, iC Tryz.f99 uQryD1] [(1, sS m), (6, v), (8, iN i), (9, .bool (okM (List.getD (foldL s) i 0) m k)), (10, iN k)] w := by
 intro N
 induction N with
 | zero => intro k w out hk hM hN; exact absurd hN (Nat.not_lt_zero _)
 | succ N ih =>
  intro k w out hk hM hN
  have hb := bl_bd m k
  refine xs ?_
  refine xn 5 m ?_
  refine xc 2 (((k : Nat) : Int) < ((m.length : Nat) : Int)) (fun h2p => ?_) (fun h2p => ?_)
  ·
   refine xh 3 [] hM (sK sR) (fun w6 hM7 hS8 => ?_)
   rcases Bool.eq_false_or_eq_true (okM (List.getD (foldL s) i 0) m k) with h10 | h10
   ·
    refine ye [0] 1 (okM (List.getD (foldL s) i 0) m k) true h10 hS8 ?_
    refine ydp [2,3,4,5,6,7,8,9,10,11,12] hS8 ?_
    refine xa 3 ((k : Nat) : Int) 1 (((k + 1) : Nat) : Int) ?_
    exact xl 3 (l := [(1, sS m), (6, v), (8, iN i), (9, .bool true), (10, iN (k + 1))]) (GoS.cast (by rw [okM_step (show k < m.length by omega), (show okM (List.getD (foldL s) i 0) m k = true by simpa using h10)]; rfl) (ih (k + 1) w6 out (by omega) (hM7.sub (sK sN)) (by omega)))
   ·
    refine ye [0] 1 (okM (List.getD (foldL s) i 0) m k) false h10 hS8 ?_
    obtain ⟨p12, hp13, hq14⟩ := rd_at (i := ((i : Nat) : Int)) sT70 (hS8.rd 0 rfl) i (by omega) (by first | omega | (dsimp only; omega))
    refine yv [2,3] 4 (fun W_ hW_ => hq14 W_ .i64) hS8 ?_
    refine ya [] 5 hS8 pE3 0 rfl rfl hp13 (ivals_at (by first | omega | (dsimp only; omega))) ?_
    have hb15 := bl_bd m k
    refine yv [6,7] 8 (fun W_ hW_ => (show (Instr.index 9 (sS m) (iN k)).run Tryz.prog W_ = .ok (.int .u8 (bl m k)) W_ from f_index k (by kernel_rfl) (by omega) (by omega))) hS8 ?_
    refine yv [] 9 (fun W_ hW_ => (show (convert 5 3 (.int .u8 (bl m k))).run Tryz.prog W_ = .ok (.int .i64 (bl m k)) W_ from f_conv (u := .int .u8) (by kernel_rfl) (by kernel_rfl) (IntWalk.i64_in _ (by omega)))) hS8 ?_
    refine ydp [10,11,12] hS8 ?_
    refine xa 3 ((k : Nat) : Int) 1 (((k + 1) : Nat) : Int) ?_
    exact xl 3 (l := [(1, sS m), (6, v), (8, iN i), (9, .bool ((List.getD (foldL s) i 0) == (bl m k))), (10, iN (k + 1))]) (GoS.cast (by rw [okM_step (show k < m.length by omega), (show okM (List.getD (foldL s) i 0) m k = false by simpa using h10)]; rfl) (ih (k + 1) w6 out (by omega) (hM7.sub (sK sN)) (by omega)))
  ·
   refine xb 6 (!(okM (List.getD (foldL s) i 0) m k)) (fun h3 => ?_) (fun h3 => ?_)
   ·
    have hM4 := hM.sub (sD sR)
    obtain ⟨e1, e2⟩ := let_bad (marks := m) hd hlong (i := i) (by omega) (by rw [← (show k = m.length by omega)]; have z := h3; simpa using z)
    exact xr 5 (v := .tuple #[.slice none 0 0, .int .i64 20]) Tryz.func99 hR ⟨_, by rw [e1], by rw [e2]; exact (hM4.sub sN).nilrow 3 1⟩
   ·
    refine xa 4 ((i : Nat) : Int) 1 (((i + 1) : Nat) : Int) ?_
    exact xl 3 (out w (by rw [← (show k = m.length by omega)]; have z := h3; simpa using z) (hM.sub (sK sN)))

set_option maxHeartbeats 400000 in
theorem rlet_c_L1 (s m : List UInt8) (hm : m.length ≤ 1048576) (hd : decE s = 0) (hlong : ¬ 16 < (foldL s).length) (hnone : ¬ (foldL s).length = 0) {w0 : World} (v : Value) (R : Ending → World → Prop) (hR : R = (fun e w' => ∃ v, e = .returned (.tuple #[v, .int .i64 (letP s m)]) ∧ Mem [] w0 w' [⟨3, 1, v, (List.length (letL s m)), (ivals .i64 (letL s m))⟩])) : ∀ (N : Nat) (i : Nat) (w : World) (hi : i ≤ (foldL s).length) (hz : ∀ j, j < i → okM (List.getD (foldL s) j 0) m m.length = true) (hM : Mem [] w0 w [⟨3, 1, v, (List.length (foldL s)), (ivals .i64 (foldL s))⟩]) (hN : (foldL s).length - i < N), GoS Tryz.prog 99 R 57 [iC Tryz.f99 uQryD0, iL Tryz.f99 uQryD0, .inBlock 0, iC Tryz.f99 uQryD1] [(1, sS m), (6, v), (8, iN i)] w := by
 intro N
 induction N with
 | zero => intro i w hi hz hM hN; exact absurd hN (Nat.not_lt_zero _)
 | succ N ih =>
  intro i w hi hz hM hN
  refine xs ?_
  refine xv 5 (f_slen sT70 (hM.rd 0 rfl) 3 w) ?_
  refine xc 2 (((i : Nat) : Int) < (((List.length (foldL s)) : Nat) : Int)) (fun h2p => ?_) (fun h2p => ?_)
  ·
   refine xat 7 sT70 (hM.rd 0 rfl) ((i : Nat) : Int) i (fun p3 hp4 => ?_)
   refine xv 0 (at_load pE3 (hM.rd 0 rfl) hp4 (ivals_at (by first | omega | (dsimp only; omega)))) ?_
   refine xk 0 (rletter_c (List.getD (foldL s) i 0) w) (fun w8 m9 => ?_)
   have hM10 := Mem.join hM m9
   exact xl 9 (l := [(1, sS m), (6, v), (8, iN i), (9, .bool (letter (List.getD (foldL s) i 0))), (10, .int .i64 0)]) (GoS.cast (by first | rfl | (rw [okM_zero]; rfl) | (rw [okM_zero])) (rlet_c_L2 s m hm hd hlong hnone v i (by omega) R hR (m.length + 1) 0 w8 (fun w ht hM => ih (i + 1) w (by omega) (fun j hj => by rcases Nat.lt_succ_iff_lt_or_eq.1 hj with g | g; exact hz j g; subst g; exact ht) hM (by omega)) (Nat.zero_le _) (hM10.sub (sK sN)) (by omega)))
  ·
   obtain ⟨e1, e2⟩ := let_good (marks := m) hd hlong hnone (fun j hj => hz j (by omega))
   exact xr 7 (v := .tuple #[v, .int .i64 0]) Tryz.func99 hR ⟨_, by rw [e1], by rw [e2]; exact hM⟩

set_option maxHeartbeats 400000 in
theorem rlet_c (s m : List UInt8) (hs : s.length ≤ 1048576) (hm : m.length ≤ 1048576) (w : World) :
  Calls Tryz.prog 99 #[sS s, sS m] w (fun e w' => ∃ v, e = .returned (.tuple #[v, .int .i64 (letP s m)]) ∧ Mem [] w w' [⟨3, 1, v, (List.length (letL s m)), (ivals .i64 (letL s m))⟩]) := by
 refine xe 57 Tryz.func99 (fun R hR => ?_)
 have hM0 := Mem.start w
 refine xkv 8 (rfolded_c s (by omega) w) (fun v4 w1 m2 => ?_)
 have hM3 := Mem.join hM0 m2
 refine xcn 12 ((decE s) = 0) (fun h5p => ?_) (fun h5p => ?_)
 ·
  have hM6 := hM3.sub (sD sR)
  obtain ⟨e1, e2⟩ := let_err (by omega) (s := s) (marks := m)
  exact xr 6 (v := .tuple #[.slice none 0 0, .int .i64 (decE s)]) Tryz.func99 hR ⟨_, by rw [e1], by rw [e2]; exact (hM6.sub sN).nilrow 3 1⟩
 ·
  refine xv 5 (f_slen sT70 (hM3.rd 0 rfl) 3 w1) ?_
  refine xc 2 ((((List.length (foldL s)) : Nat) : Int) > 16) (fun h8p => ?_) (fun h8p => ?_)
  ·
   have hM9 := hM3.sub (sD sR)
   obtain ⟨e1, e2⟩ := let_long (by omega) (by omega) (s := s) (marks := m)
   exact xr 5 (v := .tuple #[.slice none 0 0, .int .i64 4]) Tryz.func99 hR ⟨_, by rw [e1], by rw [e2]; exact (hM9.sub sN).nilrow 3 1⟩
  ·
   refine xv 5 (f_slen sT70 (hM3.rd 0 rfl) 3 w1) ?_
   refine xc 2 ((((List.length (foldL s)) : Nat) : Int) = 0) (fun h11p => ?_) (fun h11p => ?_)
   ·
    have hM12 := hM3.sub (sD sR)
    obtain ⟨e1, e2⟩ := let_none (by omega) (by omega) (s := s) (marks := m)
    exact xr 5 (v := .tuple #[.slice none 0 0, .int .i64 20]) Tryz.func99 hR ⟨_, by rw [e1], by rw [e2]; exact (hM12.sub sN).nilrow 3 1⟩
   ·
    exact xl 8 (rlet_c_L1 s m hm (by omega) (by omega) (by omega) v4 R hR ((foldL s).length + 1) 0 w1 (Nat.zero_le _) (fun j hj => absurd hj (Nat.not_lt_zero _)) (hM3.sub (sK sN)) (by omega))


end Go.Proofs.YthpodbngljfdmaaGreatDoor


namespace Go.Proofs.YthpodbngljfdmaaGreatDoor
open Go Go.Gw Go.UtfP Go.TokP Go.QryP Go.RowKit
set_option linter.unusedVariables false
set_option linter.unusedSimpArgs false
set_option maxRecDepth 20000


set_option maxHeartbeats 2000000 in
theorem words_c {w : World} (q : Q) (h : Hd) (he : h = q.h) (v : Value) (hq : RdQ w q v) (hb : bulkQ q ≤ 1048576) :
  Calls Tryz.prog 46 #[.agg #[.int .i64 (h.op), sS (h.field), sS (h.text), .int .i64 (h.edits), .int .i64 (h.exact), .int .u64 (h.lo), .int .u64 (h.hi), v]] w (fun e w' => e = .returned (.bool (wordsP h)) ∧ Mem [] w w' []) := by
 obtain ⟨L, hr, hl, hh, hs⟩ := hq.inv
 have hbl : bulkL q.l + q.h.field.length + q.h.text.length + 1 = bulkQ q := by cases q; rw [bulkQ_mk]; rfl
 have hln := bulk_len q.l
 have lp1 := @let_pos h.text []
 have lp2 : letP h.text [] = 0 → (letL h.text []).length = (foldL h.text).length := fun z => by rw [(lp1 z).2.2]
 have lp3 := lp1
 clear lp1 lp3
 refine xe 83 Tryz.func46 (fun R hR => ?_)
 have hM0 := Mem.start w
 refine xx 2 (m_box (T := 25) (k := 8) (u := .agg #[.int .i64 (h.op), sS (h.field), sS (h.text), .int .i64 (h.edits), .int .i64 (h.exact), .int .u64 (h.lo), .int .u64 (h.hi), v]) rfl rfl hM0) (fun b1 w2 hM4 => ?_)
 refine xv 6 (c_load pE3 (hM4.rd 0 rfl) (cel_obj b1 0) rfl) ?_
 refine xc 7 (h.op = 1) (fun h8p => ?_) (fun h8p => ?_)
 ·
  refine xv 3 (c_load pE9 (hM4.rd 0 rfl) (cel_obj b1 2) rfl) ?_
  have hM10 := hM4.sub (sD sR)
  refine xk 0 (term_c (h.text) w2) (fun w11 m12 => ?_)
  have hM13 := Mem.join hM10 m12
  exact xr 12 (v := .bool ((termE (h.text)) == 0)) Tryz.func46 hR ⟨ret_bool (by by_cases g : (termE (h.text)) = 0; exact (beq_iff_eq.2 g).trans (decide_eq_true (by unfold WP; omega)).symm; exact (beq_eq_false_iff_ne.2 g).trans (decide_eq_false (by unfold WP; omega)).symm), hM13.sub sN⟩
 ·
  refine xc 5 (h.op = 5) (fun h14p => ?_) (fun h14p => ?_)
  ·
   refine xv 3 (c_load pE9 (hM4.rd 0 rfl) (cel_obj b1 2) rfl) ?_
   have hM16 := hM4.sub (sD sR)
   refine xkv 0 (tokens_c (h.text) w2) (fun v20 w17 m18 => ?_)
   have hM19 := Mem.join hM16 m18
   refine xfc 11 33 ((tokE (h.text)) = 0) (fun h21p => ?_) (fun h21p => ?_)
   ·
    refine xv 1 (f_slen sT79 (hM19.rd 0 rfl) 3 w17) ?_
    refine xfc 3 38 ((((List.length (tokL (h.text))) : Nat) : Int) > 0) (fun h23p => ?_) (fun h23p => ?_)
    ·
     refine xv 1 (f_slen sT79 (hM19.rd 0 rfl) 3 w17) ?_
     have hM25 := hM19.sub (sD sR)
     exact xr 4 (v := .bool (decide ((((List.length (tokL (h.text))) : Nat) : Int) ≤ 16))) Tryz.func46 hR ⟨ret_bool (by by_cases g : (((List.length (tokL (h.text))) : Nat) : Int) ≤ 16; exact (decide_eq_true g).trans (decide_eq_true (by unfold WP; omega)).symm; exact (decide_eq_false g).trans (decide_eq_false (by unfold WP; omega)).symm), hM25.sub sN⟩
    ·
     have hM26 := hM19.sub (sD sR)
     exact xr 6 (v := .bool false) Tryz.func46 hR ⟨ret_bool (decide_eq_false (by unfold WP; omega)).symm, hM26.sub sN⟩
   ·
    have hM27 := hM19.sub (sD sR)
    exact xr 11 (v := .bool false) Tryz.func46 hR ⟨ret_bool (decide_eq_false (by unfold WP; omega)).symm, hM27.sub sN⟩
  ·
   refine xc 5 (h.op = 3) (fun h28p => ?_) (fun h28p => ?_)
   ·
    refine xv 3 (c_load pE9 (hM4.rd 0 rfl) (cel_obj b1 2) rfl) ?_
    have hM30 := hM4.sub (sD sR)
    refine xkv 0 (let_c (h.text) ([42, 63] : List UInt8) (by rw [he]; omega) (by decide) w2) (fun v34 w31 m32 => ?_)
    have hM33 := Mem.join hM30 m32
    have hM35 := hM33.sub (sD sR)
    exact xr 12 (v := .bool ((letP (h.text) ([42, 63] : List UInt8)) == 0)) Tryz.func46 hR ⟨ret_bool (by by_cases g : (letP (h.text) ([42, 63] : List UInt8)) = 0; exact (beq_iff_eq.2 g).trans (decide_eq_true (by unfold WP; omega)).symm; exact (beq_eq_false_iff_ne.2 g).trans (decide_eq_false (by unfold WP; omega)).symm), hM35.sub sN⟩
   ·
    refine xv 5 (c_load pE9 (hM4.rd 0 rfl) (cel_obj b1 2) rfl) ?_
    refine xkv 0 (let_c (h.text) ([]) (by rw [he]; omega) (by decide) w2) (fun v40 w37 m38 => ?_)
    have hM39 := Mem.join hM4 m38
    refine xfc 11 61 ((letP (h.text) ([])) = 0) (fun h41p => ?_) (fun h41p => ?_)
    ·
     refine xv 1 (c_load pE3 (hM39.rd 1 rfl) (cel_obj b1 3) rfl) ?_
     refine xfc 3 66 (h.edits ≥ 0) (fun h43p => ?_) (fun h43p => ?_)
     ·
      refine xv 1 (c_load pE3 (hM39.rd 1 rfl) (cel_obj b1 3) rfl) ?_
      refine xfc 3 71 (h.edits ≤ 2) (fun h45p => ?_) (fun h45p => ?_)
      ·
       refine xv 1 (c_load pE3 (hM39.rd 1 rfl) (cel_obj b1 4) rfl) ?_
       refine xfc 3 76 (h.exact ≥ 0) (fun h47p => ?_) (fun h47p => ?_)
       ·
        refine xv 1 (c_load pE3 (hM39.rd 1 rfl) (cel_obj b1 4) rfl) ?_
        refine xv 1 (f_slen sT70 (hM39.rd 0 rfl) 3 w37) ?_
        have hM50 := hM39.sub (sD (sD sR))
        exact xr 4 (v := .bool (decide (h.exact ≤ (((List.length (letL (h.text) ([]))) : Nat) : Int)))) Tryz.func46 hR ⟨ret_bool (by by_cases g : h.exact ≤ (((List.length (letL (h.text) ([]))) : Nat) : Int); exact (decide_eq_true g).trans (decide_eq_true (by unfold WP; omega)).symm; exact (decide_eq_false g).trans (decide_eq_false (by unfold WP; omega)).symm), hM50.sub sN⟩
       ·
        have hM51 := hM39.sub (sD (sD sR))
        exact xr 8 (v := .bool false) Tryz.func46 hR ⟨ret_bool (decide_eq_false (by unfold WP; omega)).symm, hM51.sub sN⟩
      ·
       have hM52 := hM39.sub (sD (sD sR))
       exact xr 13 (v := .bool false) Tryz.func46 hR ⟨ret_bool (decide_eq_false (by unfold WP; omega)).symm, hM52.sub sN⟩
     ·
      have hM53 := hM39.sub (sD (sD sR))
      exact xr 18 (v := .bool false) Tryz.func46 hR ⟨ret_bool (decide_eq_false (by unfold WP; omega)).symm, hM53.sub sN⟩
    ·
     have hM54 := hM39.sub (sD (sD sR))
     exact xr 23 (v := .bool false) Tryz.func46 hR ⟨ret_bool (decide_eq_false (by unfold WP; omega)).symm, hM54.sub sN⟩


end Go.Proofs.YthpodbngljfdmaaGreatDoor


namespace Go.Proofs.YthpodbngljfdmaaGreatDoor
open Go Go.Gw Go.UtfP Go.TokP Go.QryP Go.RowKit
set_option linter.unusedVariables false
set_option linter.unusedSimpArgs false
set_option maxRecDepth 20000
theorem eT68 : EqT Tryz.prog 68 := ⟨by kernel_rfl, by kernel_rfl, by kernel_rfl⟩


set_option maxHeartbeats 8000000 in
theorem right_L (N : Nat) (ih : ∀ (q : Q), bulkQ q < N → ∀ {w : World} (h : Hd) (he : h = q.h) (v : Value) (hq : RdQ w q v) (hb : bulkQ q ≤ 1048576) , Calls Tryz.prog 28 #[.agg #[.int .i64 (h.op), sS (h.field), sS (h.text), .int .i64 (h.edits), .int .i64 (h.exact), .int .u64 (h.lo), .int .u64 (h.hi), v]] w (fun e w' => e = .returned (.bool (rightQ q)) ∧ Mem [] w w' [])) {w0 : World} (q : Q) (h : Hd) (he : h = q.h) (v : Value) (hq : RdQ w0 q v) (hb : bulkQ q ≤ 1048576) (L : List QN) (hr : Rd w0 8 v L.length (recs qnC L)) (hl : L.length = q.l.length) (hh : ∀ j, j < q.l.length → (L.getD j qz).h = (q.l.getD j q0).h) (hs : ∀ j, j < q.l.length → RdQ w0 (q.l.getD j q0) (L.getD j qz).parts) (b : Nat) (hN : bulkQ q = N) (R : Ending → World → Prop) (hR : R = (fun e w' => e = .returned (.bool (rightQ q)) ∧ Mem [] w0 w' [])) : ∀ (M_ : Nat) (i : Nat) (w : World) (hi : i ≤ L.length) (hRt : rightL (q.l.take i) = true) (hM : Mem [] w0 w [⟨25, 8, (obj b), 1, [.int .i64 (h.op), sS (h.field), sS (h.text), .int .i64 (h.edits), .int .i64 (h.exact), .int .u64 (h.lo), .int .u64 (h.hi), v]⟩]) (hN : L.length - i < M_), GoS Tryz.prog 28 R 93 [iC Tryz.f28 [1,0,1,0,0], iL Tryz.f28 [1,0,1,0,0], .inBlock 0, iC Tryz.f28 [1,1]] [(1, pq b), (8, v), (9, iN (List.length L)), (10, iN i)] w := by
 intro M_
 induction M_ with
 | zero => intro i w hi hRt hM hN; exact absurd hN (Nat.not_lt_zero _)
 | succ M_ ih_ =>
  intro i w hi hRt hM hN
  have hbl : bulkL q.l + q.h.field.length + q.h.text.length + 1 = bulkQ q := by cases q; rw [bulkQ_mk]; rfl
  have hln := bulk_len q.l
  have hqe := he
  refine xs ?_
  refine xc 5 (((i : Nat) : Int) < (((List.length L) : Nat) : Int)) (fun h1p => ?_) (fun h1p => ?_)
  ·
   refine xat 5 sT23 (hr.kept0 hM.kept) ((i : Nat) : Int) i (fun p453 hp454 => ?_)
   refine xv 0 (r_loads (f := qnC) (l := L) aE25 (hr.kept0 hM.kept) qnC_len hp454 (by first | omega | (dsimp only; omega)) qz) ?_
   refine xx 0 (m_alloc oT25 hM) (fun b456 w457 hM459 => ?_)
   refine xst 0 (c_stores (ys := [.int .i64 ((List.getD L i qz).h.op), sS ((List.getD L i qz).h.field), sS ((List.getD L i qz).h.text), .int .i64 ((List.getD L i qz).h.edits), .int .i64 ((List.getD L i qz).h.exact), .int .u64 ((List.getD L i qz).h.lo), .int .u64 ((List.getD L i qz).h.hi), ((List.getD L i qz).parts)]) aE25 hM459 0 rfl (cel_obj b456 0) rfl (by decide) (by intro u hu; simp at hu; rcases hu with rfl | rfl | rfl | rfl | rfl | rfl | rfl | rfl <;> first | rfl | exact ((hs i (by omega)).kept hM459.kept).one.1)) (fun w461 hM463 => ?_)
   refine xv 3 (c_loads (ys := [.int .i64 ((List.getD L i qz).h.op), sS ((List.getD L i qz).h.field), sS ((List.getD L i qz).h.text), .int .i64 ((List.getD L i qz).h.edits), .int .i64 ((List.getD L i qz).h.exact), .int .u64 ((List.getD L i qz).h.lo), .int .u64 ((List.getD L i qz).h.hi), ((List.getD L i qz).parts)]) aE25 (hM463.rd 0 rfl) (cel_obj b456 0) rfl (lq rfl)) ?_
   have hM469 := hM463.sub (sD (sK sR))
   have hkb473 := bulk_kid (l := q.l) (i := i) (by omega)
   have hks474 := size_le (List.getD q.l i q0)
   have hbs475 := bulk_step (l := q.l) (i := i) (by omega)
   refine xk 0 (ih (List.getD q.l i q0) (by omega) ((List.getD L i qz).h) (hh i (by omega)) ((List.getD L i qz).parts) ((hs i (by omega)).kept hM469.kept) (by omega)) (fun w470 m471 => ?_)
   have hM472 : Mem [] w0 w470 [⟨25, 8, (obj b), 1, [.int .i64 (h.op), sS (h.field), sS (h.text), .int .i64 (h.edits), .int .i64 (h.exact), .int .u64 (h.lo), .int .u64 (h.hi), v]⟩] := Mem.join (R := []) hM469 m471
   refine xb 2 (!(rightQ (List.getD q.l i q0))) (fun h476 => ?_) (fun h476 => ?_)
   ·
    have hM477 := hM472.sub (sD sR)
    exact xr 4 (v := .bool false) Tryz.func28 hR ⟨ret_bool (right_not (right_bad (show i < q.l.length by omega) (by have z := h476; simpa using z))).symm, hM477.sub sN⟩
   ·
    refine xa 3 ((i : Nat) : Int) 1 (((i + 1) : Nat) : Int) ?_
    exact xl 3 (ih_ (i + 1) _ (by omega) (by rw [right_step (show i < q.l.length by omega), hRt, Bool.true_and]; have z := h476; simpa using z) (hM472.sub (sK sN)) (by omega))
  ·
   refine xv 4 (c_load pE3 (hM.rd 0 rfl) (cel_obj b 0) rfl) ?_
   refine xv 1 (c_load pE23 (hM.rd 0 rfl) (cel_obj b 7) rfl) ?_
   refine xv 0 (show (Instr.build 25 #[(0, .int .i64 (h.op)), (7, v)]).run Tryz.prog w = .ok (.agg #[.int .i64 (h.op), sS ([]), sS ([]), .int .i64 0, .int .i64 0, .int .u64 0, .int .u64 0, v]) w from (by obtain ⟨a0_, m0_, c0_, e0_⟩ : ∃ a m c, v = Value.slice a m c := rd_form (hr.kept0 hM.kept); rw [e0_]; kernel_rfl)) ?_
   refine xx 0 (m_alloc oT25 hM) (fun b2 w3 hM5 => ?_)
   refine xst 0 (c_stores (ys := [.int .i64 (h.op), sS ([]), sS ([]), .int .i64 0, .int .i64 0, .int .u64 0, .int .u64 0, v]) aE25 hM5 0 rfl (cel_obj b2 0) rfl (by decide) (by intro u hu; simp at hu; rcases hu with rfl | rfl | rfl | rfl | rfl | rfl | rfl | rfl <;> first | rfl | exact (hq.kept hM5.kept).one.1)) (fun w7 hM9 => ?_)
   refine xv 9 (c_load pE3 (hM9.rd 1 rfl) (cel_obj b 0) rfl) ?_
   refine xc 8 (h.op = 1) (fun h16p => ?_) (fun h16p => ?_)
   ·
    have h16 : (h.op == 1) = true := by simpa using h16p
    refine xc 1 (h.op = 1) (fun h20p => ?_) (fun h20p => ?_)
    ·
     refine xh 1 [7] hM9 (sD (sK sR)) (fun w21 hM22 hS23 => ?_)
     refine yl [0] 1 hS23 pE9 0 rfl (cel_obj b 1) rfl ?_
     refine yl [2] 3 hS23 pE9 0 rfl (cel_obj b 2) rfl ?_
     refine yst [4] 5 (c_store (E := 9) (u := sS (h.field)) (by kernel_rfl) hM22 0 rfl (cel_obj b2 1) (by decide) rfl rfl) hS23 (fun _ h_ => h_.sub (sD (sK sR))) (fun w25 hM27 hS29 => ?_)
     refine ysw [6] 7 (c_store (E := 9) (u := sS (h.text)) (by kernel_rfl) hM27 0 rfl (cel_obj b2 2) (by decide) rfl rfl) hS29 (fun w30 hM32 => ?_)
     refine yd ?_
     refine xv 4 (c_load pE3 (hM32.rd 1 rfl) (cel_obj b 0) rfl) ?_
     refine xc 2 (h.op = 4) (fun h35p => ?_) (fun h35p => ?_)
     ·
      refine xh 0 [7] hM32 (sD (sK sR)) (fun w36 hM37 hS38 => ?_)
      refine yl [0] 1 hS38 pE3 0 rfl (cel_obj b 3) rfl ?_
      refine yl [2] 3 hS38 pE3 0 rfl (cel_obj b 4) rfl ?_
      refine yst [4] 5 (c_store (E := 3) (u := .int .i64 (h.edits)) (by kernel_rfl) hM37 0 rfl (cel_obj b2 3) (by decide) rfl rfl) hS38 (fun _ h_ => h_.sub (sD (sK sR))) (fun w40 hM42 hS44 => ?_)
      refine ysw [6] 7 (c_store (E := 3) (u := .int .i64 (h.exact)) (by kernel_rfl) hM42 0 rfl (cel_obj b2 4) (by decide) rfl rfl) hS44 (fun w45 hM47 => ?_)
      refine yd ?_
      refine xv 3 (c_load pE9 (hM47.rd 1 rfl) (cel_obj b 1) rfl) ?_
      refine xka 0 (name_c (h.field) (by rw [he]; omega) w45) ?_
      refine xf 2 50 (!(nameP (h.field))) (fun h50 => ?_) (fun h50 => ?_)
      ·
       have hM55 := hM47.sub (sD (sD sR))
       refine xr0 10 (v := .bool false) Tryz.func28 ?_
       rw [hR]
       have hall : rightL q.l = true := by rw [← tk_all (l := q.l) (i := i) (by omega)]; exact hRt
       have hro := right_of hall
       rw [← he] at hro
       exact ⟨ret_bool (by rw [hro, node_name (by omega) (by have z := h50; simpa using z)]), hM55.sub sN⟩
      ·
       refine xv 0 (c_loads (ys := [.int .i64 (h.op), sS (h.field), sS (h.text), .int .i64 (h.edits), .int .i64 (h.exact), .int .u64 (h.lo), .int .u64 (h.hi), v]) aE25 (hM47.rd 1 rfl) (cel_obj b 0) rfl (lq rfl)) ?_
       refine xk 0 (words_c q h he v (hq.kept hM47.kept) (by omega)) (fun w52 m53 => ?_)
       have hM54 : Mem [] w0 w52 [⟨25, 8, (obj b2), 1, [.int .i64 (h.op), sS (h.field), sS (h.text), .int .i64 (h.edits), .int .i64 (h.exact), .int .u64 0, .int .u64 0, v]⟩, ⟨25, 8, (obj b), 1, [.int .i64 (h.op), sS (h.field), sS (h.text), .int .i64 (h.edits), .int .i64 (h.exact), .int .u64 (h.lo), .int .u64 (h.hi), v]⟩] := Mem.join (R := []) hM47 m53
       refine xb 3 (!(wordsP h)) (fun h56 => ?_) (fun h56 => ?_)
       ·
        have hM57 := hM54.sub (sD (sD sR))
        refine xr0 4 (v := .bool false) Tryz.func28 ?_
        rw [hR]
        have hall : rightL q.l = true := by rw [← tk_all (l := q.l) (i := i) (by omega)]; exact hRt
        have hro := right_of hall
        rw [← he] at hro
        exact ⟨ret_bool (by rw [hro, node_noword (by omega) (of_decide_eq_false (by have z := h56; simpa [wordsP] using z))]), hM57.sub sN⟩
       ·
        refine xh 3 [] hM54 (sK (sK sR)) (fun w67 hM68 hS69 => ?_)
        refine yl [0] 1 hS69 pE23 1 rfl (cel_obj b 7) rfl ?_
        refine yv [] 2 (fun W_ hW_ => (show (Builtin.len_ #[23] 3 #[v]).run Tryz.prog W_ = .ok (iN (List.length L)) W_ from f_slen sT23 (hr.kept0 hW_.kept) 3 _)) hS69 ?_
        rcases Bool.eq_false_or_eq_true ((((List.length L) : Nat) : Int) == 0) with h71 | h71
        ·
         have h71p : (((List.length L) : Nat) : Int) = 0 := eq_of_beq h71
         refine ye [3,4] 5 ((((List.length L) : Nat) : Int) == 0) true h71 hS69 ?_
         refine yv [] 6 (fun W_ hW_ => (show (Instr.loadAt 25 (pq b)).run Tryz.prog W_ = .ok (.agg #[.int .i64 (h.op), sS (h.field), sS (h.text), .int .i64 (h.edits), .int .i64 (h.exact), .int .u64 (h.lo), .int .u64 (h.hi), v]) W_ from c_loads (ys := [.int .i64 (h.op), sS (h.field), sS (h.text), .int .i64 (h.edits), .int .i64 (h.exact), .int .u64 (h.lo), .int .u64 (h.hi), v]) aE25 (hW_.rd 1 rfl) (cel_obj b 0) rfl (lq rfl))) hS69 ?_
         refine yv [] 8 (fun W_ hW_ => (show (Instr.loadAt 25 (pq b2)).run Tryz.prog W_ = .ok (.agg #[.int .i64 (h.op), sS (h.field), sS (h.text), .int .i64 (h.edits), .int .i64 (h.exact), .int .u64 0, .int .u64 0, v]) W_ from c_loads (ys := [.int .i64 (h.op), sS (h.field), sS (h.text), .int .i64 (h.edits), .int .i64 (h.exact), .int .u64 0, .int .u64 0, v]) aE25 (hW_.rd 0 rfl) (cel_obj b2 0) rfl (lq rfl))) hS69 ?_
         refine yck [] 7 (flat_c (w := w67) h v) hS69 (fun w72 m73 => ?_)
         have hM74 : Mem [] w0 w72 [⟨25, 8, (obj b2), 1, [.int .i64 (h.op), sS (h.field), sS (h.text), .int .i64 (h.edits), .int .i64 (h.exact), .int .u64 0, .int .u64 0, v]⟩, ⟨25, 8, (obj b), 1, [.int .i64 (h.op), sS (h.field), sS (h.text), .int .i64 (h.edits), .int .i64 (h.exact), .int .u64 (h.lo), .int .u64 (h.hi), v]⟩] := Mem.join (R := []) hM68 m73
         have hS75 := hM74.sub (sK (sK sR))
         refine ⟨hS75, ?_⟩
         refine yck [] 9 (flat_c (w := w72) (Hd.mk (h.op) (h.field) (h.text) (h.edits) (h.exact) 0 0) v) hS75 (fun w76 m77 => ?_)
         have hM78 : Mem [] w0 w76 [⟨25, 8, (obj b2), 1, [.int .i64 (h.op), sS (h.field), sS (h.text), .int .i64 (h.edits), .int .i64 (h.exact), .int .u64 0, .int .u64 0, v]⟩, ⟨25, 8, (obj b), 1, [.int .i64 (h.op), sS (h.field), sS (h.text), .int .i64 (h.edits), .int .i64 (h.exact), .int .u64 (h.lo), .int .u64 (h.hi), v]⟩] := Mem.join (R := []) hM74 m77
         have hS79 := hM78.sub (sK (sK sR))
         refine ⟨hS79, ?_⟩
         refine yp [] 10 (.bool (nothP h true true false)) (fun W_ hW_ => (show Tryz.prog.eqGuardType Tryz.prog.depth 68 = false ∧ (binOp .eql 68 (.agg #[.int .i64 (h.op), sS (h.field), sS (h.text), .int .i64 (h.edits), .int .i64 (h.exact), .int .u64 (h.lo), .int .u64 (h.hi)]) (.agg #[.int .i64 (h.op), sS (h.field), sS (h.text), .int .i64 (h.edits), .int .i64 (h.exact), .int .u64 0, .int .u64 0])).run Tryz.prog W_ = .ok (.bool (nothP h true true false)) W_ from f_ageq eT68 (xs := [.int .i64 (h.op), sS (h.field), sS (h.text), .int .i64 (h.edits), .int .i64 (h.exact), .int .u64 (h.lo), .int .u64 (h.hi)]) (ys := [.int .i64 (h.op), sS (h.field), sS (h.text), .int .i64 (h.edits), .int .i64 (h.exact), .int .u64 0, .int .u64 0]) (r := ((h.op == h.op) && (((sb (h.field)).toList == (sb (h.field)).toList) && (((sb (h.text)).toList == (sb (h.text)).toList) && ((h.edits == h.edits) && ((h.exact == h.exact) && ((h.lo == 0) && ((h.hi == 0) && true)))))))) (by kernel_rfl) (noth_f h))) hS79 ?_
         refine ydp [11,12] hS79 ?_
         have hM80 := hM78.sub (sD (sD sR))
         refine xr0 0 (v := .bool (nothP h true true false)) Tryz.func28 ?_
         rw [hR]
         have hall : rightL q.l = true := by rw [← tk_all (l := q.l) (i := i) (by omega)]; exact hRt
         have hro := right_of hall
         rw [← he] at hro
         exact ⟨ret_bool (by rw [hro, node_word (by omega) (by have z := h50; simpa using z) (of_decide_eq_true (by have z := h56; simpa [wordsP] using z)) (by omega), if_pos (by omega)]), hM80.sub sN⟩
        ·
         have h71p : ¬ ((((List.length L) : Nat) : Int) = 0) := p_ne h71
         refine ye [3,4] 5 ((((List.length L) : Nat) : Int) == 0) false h71 hS69 ?_
         refine ydp [6,7,8,9,10,11,12] hS69 ?_
         have hM81 := hM68.sub (sD (sD sR))
         refine xr0 0 (v := .bool false) Tryz.func28 ?_
         rw [hR]
         have hall : rightL q.l = true := by rw [← tk_all (l := q.l) (i := i) (by omega)]; exact hRt
         have hro := right_of hall
         rw [← he] at hro
         exact ⟨ret_bool (by rw [hro, node_many (by omega) (by omega)]), hM81.sub sN⟩
     ·
      refine xv 4 (c_load pE9 (hM32.rd 1 rfl) (cel_obj b 1) rfl) ?_
      refine xka 0 (name_c (h.field) (by rw [he]; omega) w30) ?_
      refine xf 2 50 (!(nameP (h.field))) (fun h59 => ?_) (fun h59 => ?_)
      ·
       have hM64 := hM32.sub (sD (sD sR))
       refine xr0 10 (v := .bool false) Tryz.func28 ?_
       rw [hR]
       have hall : rightL q.l = true := by rw [← tk_all (l := q.l) (i := i) (by omega)]; exact hRt
       have hro := right_of hall
       rw [← he] at hro
       exact ⟨ret_bool (by rw [hro, node_name (by omega) (by have z := h59; simpa using z)]), hM64.sub sN⟩
      ·
       refine xv 0 (c_loads (ys := [.int .i64 (h.op), sS (h.field), sS (h.text), .int .i64 (h.edits), .int .i64 (h.exact), .int .u64 (h.lo), .int .u64 (h.hi), v]) aE25 (hM32.rd 1 rfl) (cel_obj b 0) rfl (lq rfl)) ?_
       refine xk 0 (words_c q h he v (hq.kept hM32.kept) (by omega)) (fun w61 m62 => ?_)
       have hM63 : Mem [] w0 w61 [⟨25, 8, (obj b2), 1, [.int .i64 (h.op), sS (h.field), sS (h.text), .int .i64 0, .int .i64 0, .int .u64 0, .int .u64 0, v]⟩, ⟨25, 8, (obj b), 1, [.int .i64 (h.op), sS (h.field), sS (h.text), .int .i64 (h.edits), .int .i64 (h.exact), .int .u64 (h.lo), .int .u64 (h.hi), v]⟩] := Mem.join (R := []) hM32 m62
       refine xb 3 (!(wordsP h)) (fun h65 => ?_) (fun h65 => ?_)
       ·
        have hM66 := hM63.sub (sD (sD sR))
        refine xr0 4 (v := .bool false) Tryz.func28 ?_
        rw [hR]
        have hall : rightL q.l = true := by rw [← tk_all (l := q.l) (i := i) (by omega)]; exact hRt
        have hro := right_of hall
        rw [← he] at hro
        exact ⟨ret_bool (by rw [hro, node_noword (by omega) (of_decide_eq_false (by have z := h65; simpa [wordsP] using z))]), hM66.sub sN⟩
       ·
        refine xh 3 [] hM63 (sK (sK sR)) (fun w82 hM83 hS84 => ?_)
        refine yl [0] 1 hS84 pE23 1 rfl (cel_obj b 7) rfl ?_
        refine yv [] 2 (fun W_ hW_ => (show (Builtin.len_ #[23] 3 #[v]).run Tryz.prog W_ = .ok (iN (List.length L)) W_ from f_slen sT23 (hr.kept0 hW_.kept) 3 _)) hS84 ?_
        rcases Bool.eq_false_or_eq_true ((((List.length L) : Nat) : Int) == 0) with h86 | h86
        ·
         have h86p : (((List.length L) : Nat) : Int) = 0 := eq_of_beq h86
         refine ye [3,4] 5 ((((List.length L) : Nat) : Int) == 0) true h86 hS84 ?_
         refine yv [] 6 (fun W_ hW_ => (show (Instr.loadAt 25 (pq b)).run Tryz.prog W_ = .ok (.agg #[.int .i64 (h.op), sS (h.field), sS (h.text), .int .i64 (h.edits), .int .i64 (h.exact), .int .u64 (h.lo), .int .u64 (h.hi), v]) W_ from c_loads (ys := [.int .i64 (h.op), sS (h.field), sS (h.text), .int .i64 (h.edits), .int .i64 (h.exact), .int .u64 (h.lo), .int .u64 (h.hi), v]) aE25 (hW_.rd 1 rfl) (cel_obj b 0) rfl (lq rfl))) hS84 ?_
         refine yv [] 8 (fun W_ hW_ => (show (Instr.loadAt 25 (pq b2)).run Tryz.prog W_ = .ok (.agg #[.int .i64 (h.op), sS (h.field), sS (h.text), .int .i64 0, .int .i64 0, .int .u64 0, .int .u64 0, v]) W_ from c_loads (ys := [.int .i64 (h.op), sS (h.field), sS (h.text), .int .i64 0, .int .i64 0, .int .u64 0, .int .u64 0, v]) aE25 (hW_.rd 0 rfl) (cel_obj b2 0) rfl (lq rfl))) hS84 ?_
         refine yck [] 7 (flat_c (w := w82) h v) hS84 (fun w87 m88 => ?_)
         have hM89 : Mem [] w0 w87 [⟨25, 8, (obj b2), 1, [.int .i64 (h.op), sS (h.field), sS (h.text), .int .i64 0, .int .i64 0, .int .u64 0, .int .u64 0, v]⟩, ⟨25, 8, (obj b), 1, [.int .i64 (h.op), sS (h.field), sS (h.text), .int .i64 (h.edits), .int .i64 (h.exact), .int .u64 (h.lo), .int .u64 (h.hi), v]⟩] := Mem.join (R := []) hM83 m88
         have hS90 := hM89.sub (sK (sK sR))
         refine ⟨hS90, ?_⟩
         refine yck [] 9 (flat_c (w := w87) (Hd.mk (h.op) (h.field) (h.text) 0 0 0 0) v) hS90 (fun w91 m92 => ?_)
         have hM93 : Mem [] w0 w91 [⟨25, 8, (obj b2), 1, [.int .i64 (h.op), sS (h.field), sS (h.text), .int .i64 0, .int .i64 0, .int .u64 0, .int .u64 0, v]⟩, ⟨25, 8, (obj b), 1, [.int .i64 (h.op), sS (h.field), sS (h.text), .int .i64 (h.edits), .int .i64 (h.exact), .int .u64 (h.lo), .int .u64 (h.hi), v]⟩] := Mem.join (R := []) hM89 m92
         have hS94 := hM93.sub (sK (sK sR))
         refine ⟨hS94, ?_⟩
         refine yp [] 10 (.bool (nothP h true false false)) (fun W_ hW_ => (show Tryz.prog.eqGuardType Tryz.prog.depth 68 = false ∧ (binOp .eql 68 (.agg #[.int .i64 (h.op), sS (h.field), sS (h.text), .int .i64 (h.edits), .int .i64 (h.exact), .int .u64 (h.lo), .int .u64 (h.hi)]) (.agg #[.int .i64 (h.op), sS (h.field), sS (h.text), .int .i64 0, .int .i64 0, .int .u64 0, .int .u64 0])).run Tryz.prog W_ = .ok (.bool (nothP h true false false)) W_ from f_ageq eT68 (xs := [.int .i64 (h.op), sS (h.field), sS (h.text), .int .i64 (h.edits), .int .i64 (h.exact), .int .u64 (h.lo), .int .u64 (h.hi)]) (ys := [.int .i64 (h.op), sS (h.field), sS (h.text), .int .i64 0, .int .i64 0, .int .u64 0, .int .u64 0]) (r := ((h.op == h.op) && (((sb (h.field)).toList == (sb (h.field)).toList) && (((sb (h.text)).toList == (sb (h.text)).toList) && ((h.edits == 0) && ((h.exact == 0) && ((h.lo == 0) && ((h.hi == 0) && true)))))))) (by kernel_rfl) (noth_t h))) hS94 ?_
         refine ydp [11,12] hS94 ?_
         have hM95 := hM93.sub (sD (sD sR))
         refine xr0 0 (v := .bool (nothP h true false false)) Tryz.func28 ?_
         rw [hR]
         have hall : rightL q.l = true := by rw [← tk_all (l := q.l) (i := i) (by omega)]; exact hRt
         have hro := right_of hall
         rw [← he] at hro
         exact ⟨ret_bool (by rw [hro, node_word (by omega) (by have z := h59; simpa using z) (of_decide_eq_true (by have z := h65; simpa [wordsP] using z)) (by omega), if_neg (by omega)]), hM95.sub sN⟩
        ·
         have h86p : ¬ ((((List.length L) : Nat) : Int) = 0) := p_ne h86
         refine ye [3,4] 5 ((((List.length L) : Nat) : Int) == 0) false h86 hS84 ?_
         refine ydp [6,7,8,9,10,11,12] hS84 ?_
         have hM96 := hM83.sub (sD (sD sR))
         refine xr0 0 (v := .bool false) Tryz.func28 ?_
         rw [hR]
         have hall : rightL q.l = true := by rw [← tk_all (l := q.l) (i := i) (by omega)]; exact hRt
         have hro := right_of hall
         rw [← he] at hro
         exact ⟨ret_bool (by rw [hro, node_many (by omega) (by omega)]), hM96.sub sN⟩
    ·
     have h20 : (h.op == 1) = false := by simpa using h20p
     rw [h16] at h20; cases h20
   ·
    refine xc 5 (h.op = 2) (fun h17p => ?_) (fun h17p => ?_)
    ·
     have h17 : (h.op == 2) = true := by simpa using h17p
     refine xc 1 (h.op = 2) (fun h97p => ?_) (fun h97p => ?_)
     ·
      refine xh 1 [7] hM9 (sD (sK sR)) (fun w98 hM99 hS100 => ?_)
      refine yl [0] 1 hS100 pE9 0 rfl (cel_obj b 1) rfl ?_
      refine yl [2] 3 hS100 pE9 0 rfl (cel_obj b 2) rfl ?_
      refine yst [4] 5 (c_store (E := 9) (u := sS (h.field)) (by kernel_rfl) hM99 0 rfl (cel_obj b2 1) (by decide) rfl rfl) hS100 (fun _ h_ => h_.sub (sD (sK sR))) (fun w102 hM104 hS106 => ?_)
      refine ysw [6] 7 (c_store (E := 9) (u := sS (h.text)) (by kernel_rfl) hM104 0 rfl (cel_obj b2 2) (by decide) rfl rfl) hS106 (fun w107 hM109 => ?_)
      refine yd ?_
      refine xv 4 (c_load pE3 (hM109.rd 1 rfl) (cel_obj b 0) rfl) ?_
      refine xc 2 (h.op = 4) (fun h112p => ?_) (fun h112p => ?_)
      ·
       refine xh 0 [7] hM109 (sD (sK sR)) (fun w113 hM114 hS115 => ?_)
       refine yl [0] 1 hS115 pE3 0 rfl (cel_obj b 3) rfl ?_
       refine yl [2] 3 hS115 pE3 0 rfl (cel_obj b 4) rfl ?_
       refine yst [4] 5 (c_store (E := 3) (u := .int .i64 (h.edits)) (by kernel_rfl) hM114 0 rfl (cel_obj b2 3) (by decide) rfl rfl) hS115 (fun _ h_ => h_.sub (sD (sK sR))) (fun w117 hM119 hS121 => ?_)
       refine ysw [6] 7 (c_store (E := 3) (u := .int .i64 (h.exact)) (by kernel_rfl) hM119 0 rfl (cel_obj b2 4) (by decide) rfl rfl) hS121 (fun w122 hM124 => ?_)
       refine yd ?_
       refine xv 3 (c_load pE9 (hM124.rd 1 rfl) (cel_obj b 1) rfl) ?_
       refine xka 0 (name_c (h.field) (by rw [he]; omega) w122) ?_
       refine xf 2 50 (!(nameP (h.field))) (fun h127 => ?_) (fun h127 => ?_)
       ·
        have hM132 := hM124.sub (sD (sD sR))
        refine xr0 10 (v := .bool false) Tryz.func28 ?_
        rw [hR]
        have hall : rightL q.l = true := by rw [← tk_all (l := q.l) (i := i) (by omega)]; exact hRt
        have hro := right_of hall
        rw [← he] at hro
        exact ⟨ret_bool (by rw [hro, node_name (by omega) (by have z := h127; simpa using z)]), hM132.sub sN⟩
       ·
        refine xv 0 (c_loads (ys := [.int .i64 (h.op), sS (h.field), sS (h.text), .int .i64 (h.edits), .int .i64 (h.exact), .int .u64 (h.lo), .int .u64 (h.hi), v]) aE25 (hM124.rd 1 rfl) (cel_obj b 0) rfl (lq rfl)) ?_
        refine xk 0 (words_c q h he v (hq.kept hM124.kept) (by omega)) (fun w129 m130 => ?_)
        have hM131 : Mem [] w0 w129 [⟨25, 8, (obj b2), 1, [.int .i64 (h.op), sS (h.field), sS (h.text), .int .i64 (h.edits), .int .i64 (h.exact), .int .u64 0, .int .u64 0, v]⟩, ⟨25, 8, (obj b), 1, [.int .i64 (h.op), sS (h.field), sS (h.text), .int .i64 (h.edits), .int .i64 (h.exact), .int .u64 (h.lo), .int .u64 (h.hi), v]⟩] := Mem.join (R := []) hM124 m130
        refine xb 3 (!(wordsP h)) (fun h133 => ?_) (fun h133 => ?_)
        ·
         have hM134 := hM131.sub (sD (sD sR))
         refine xr0 4 (v := .bool false) Tryz.func28 ?_
         rw [hR]
         have hall : rightL q.l = true := by rw [← tk_all (l := q.l) (i := i) (by omega)]; exact hRt
         have hro := right_of hall
         rw [← he] at hro
         exact ⟨ret_bool (by rw [hro, node_noword (by omega) (of_decide_eq_false (by have z := h133; simpa [wordsP] using z))]), hM134.sub sN⟩
        ·
         refine xh 3 [] hM131 (sK (sK sR)) (fun w144 hM145 hS146 => ?_)
         refine yl [0] 1 hS146 pE23 1 rfl (cel_obj b 7) rfl ?_
         refine yv [] 2 (fun W_ hW_ => (show (Builtin.len_ #[23] 3 #[v]).run Tryz.prog W_ = .ok (iN (List.length L)) W_ from f_slen sT23 (hr.kept0 hW_.kept) 3 _)) hS146 ?_
         rcases Bool.eq_false_or_eq_true ((((List.length L) : Nat) : Int) == 0) with h148 | h148
         ·
          have h148p : (((List.length L) : Nat) : Int) = 0 := eq_of_beq h148
          refine ye [3,4] 5 ((((List.length L) : Nat) : Int) == 0) true h148 hS146 ?_
          refine yv [] 6 (fun W_ hW_ => (show (Instr.loadAt 25 (pq b)).run Tryz.prog W_ = .ok (.agg #[.int .i64 (h.op), sS (h.field), sS (h.text), .int .i64 (h.edits), .int .i64 (h.exact), .int .u64 (h.lo), .int .u64 (h.hi), v]) W_ from c_loads (ys := [.int .i64 (h.op), sS (h.field), sS (h.text), .int .i64 (h.edits), .int .i64 (h.exact), .int .u64 (h.lo), .int .u64 (h.hi), v]) aE25 (hW_.rd 1 rfl) (cel_obj b 0) rfl (lq rfl))) hS146 ?_
          refine yv [] 8 (fun W_ hW_ => (show (Instr.loadAt 25 (pq b2)).run Tryz.prog W_ = .ok (.agg #[.int .i64 (h.op), sS (h.field), sS (h.text), .int .i64 (h.edits), .int .i64 (h.exact), .int .u64 0, .int .u64 0, v]) W_ from c_loads (ys := [.int .i64 (h.op), sS (h.field), sS (h.text), .int .i64 (h.edits), .int .i64 (h.exact), .int .u64 0, .int .u64 0, v]) aE25 (hW_.rd 0 rfl) (cel_obj b2 0) rfl (lq rfl))) hS146 ?_
          refine yck [] 7 (flat_c (w := w144) h v) hS146 (fun w149 m150 => ?_)
          have hM151 : Mem [] w0 w149 [⟨25, 8, (obj b2), 1, [.int .i64 (h.op), sS (h.field), sS (h.text), .int .i64 (h.edits), .int .i64 (h.exact), .int .u64 0, .int .u64 0, v]⟩, ⟨25, 8, (obj b), 1, [.int .i64 (h.op), sS (h.field), sS (h.text), .int .i64 (h.edits), .int .i64 (h.exact), .int .u64 (h.lo), .int .u64 (h.hi), v]⟩] := Mem.join (R := []) hM145 m150
          have hS152 := hM151.sub (sK (sK sR))
          refine ⟨hS152, ?_⟩
          refine yck [] 9 (flat_c (w := w149) (Hd.mk (h.op) (h.field) (h.text) (h.edits) (h.exact) 0 0) v) hS152 (fun w153 m154 => ?_)
          have hM155 : Mem [] w0 w153 [⟨25, 8, (obj b2), 1, [.int .i64 (h.op), sS (h.field), sS (h.text), .int .i64 (h.edits), .int .i64 (h.exact), .int .u64 0, .int .u64 0, v]⟩, ⟨25, 8, (obj b), 1, [.int .i64 (h.op), sS (h.field), sS (h.text), .int .i64 (h.edits), .int .i64 (h.exact), .int .u64 (h.lo), .int .u64 (h.hi), v]⟩] := Mem.join (R := []) hM151 m154
          have hS156 := hM155.sub (sK (sK sR))
          refine ⟨hS156, ?_⟩
          refine yp [] 10 (.bool (nothP h true true false)) (fun W_ hW_ => (show Tryz.prog.eqGuardType Tryz.prog.depth 68 = false ∧ (binOp .eql 68 (.agg #[.int .i64 (h.op), sS (h.field), sS (h.text), .int .i64 (h.edits), .int .i64 (h.exact), .int .u64 (h.lo), .int .u64 (h.hi)]) (.agg #[.int .i64 (h.op), sS (h.field), sS (h.text), .int .i64 (h.edits), .int .i64 (h.exact), .int .u64 0, .int .u64 0])).run Tryz.prog W_ = .ok (.bool (nothP h true true false)) W_ from f_ageq eT68 (xs := [.int .i64 (h.op), sS (h.field), sS (h.text), .int .i64 (h.edits), .int .i64 (h.exact), .int .u64 (h.lo), .int .u64 (h.hi)]) (ys := [.int .i64 (h.op), sS (h.field), sS (h.text), .int .i64 (h.edits), .int .i64 (h.exact), .int .u64 0, .int .u64 0]) (r := ((h.op == h.op) && (((sb (h.field)).toList == (sb (h.field)).toList) && (((sb (h.text)).toList == (sb (h.text)).toList) && ((h.edits == h.edits) && ((h.exact == h.exact) && ((h.lo == 0) && ((h.hi == 0) && true)))))))) (by kernel_rfl) (noth_f h))) hS156 ?_
          refine ydp [11,12] hS156 ?_
          have hM157 := hM155.sub (sD (sD sR))
          refine xr0 0 (v := .bool (nothP h true true false)) Tryz.func28 ?_
          rw [hR]
          have hall : rightL q.l = true := by rw [← tk_all (l := q.l) (i := i) (by omega)]; exact hRt
          have hro := right_of hall
          rw [← he] at hro
          exact ⟨ret_bool (by rw [hro, node_word (by omega) (by have z := h127; simpa using z) (of_decide_eq_true (by have z := h133; simpa [wordsP] using z)) (by omega), if_pos (by omega)]), hM157.sub sN⟩
         ·
          have h148p : ¬ ((((List.length L) : Nat) : Int) = 0) := p_ne h148
          refine ye [3,4] 5 ((((List.length L) : Nat) : Int) == 0) false h148 hS146 ?_
          refine ydp [6,7,8,9,10,11,12] hS146 ?_
          have hM158 := hM145.sub (sD (sD sR))
          refine xr0 0 (v := .bool false) Tryz.func28 ?_
          rw [hR]
          have hall : rightL q.l = true := by rw [← tk_all (l := q.l) (i := i) (by omega)]; exact hRt
          have hro := right_of hall
          rw [← he] at hro
          exact ⟨ret_bool (by rw [hro, node_many (by omega) (by omega)]), hM158.sub sN⟩
      ·
       refine xv 4 (c_load pE9 (hM109.rd 1 rfl) (cel_obj b 1) rfl) ?_
       refine xka 0 (name_c (h.field) (by rw [he]; omega) w107) ?_
       refine xf 2 50 (!(nameP (h.field))) (fun h136 => ?_) (fun h136 => ?_)
       ·
        have hM141 := hM109.sub (sD (sD sR))
        refine xr0 10 (v := .bool false) Tryz.func28 ?_
        rw [hR]
        have hall : rightL q.l = true := by rw [← tk_all (l := q.l) (i := i) (by omega)]; exact hRt
        have hro := right_of hall
        rw [← he] at hro
        exact ⟨ret_bool (by rw [hro, node_name (by omega) (by have z := h136; simpa using z)]), hM141.sub sN⟩
       ·
        refine xv 0 (c_loads (ys := [.int .i64 (h.op), sS (h.field), sS (h.text), .int .i64 (h.edits), .int .i64 (h.exact), .int .u64 (h.lo), .int .u64 (h.hi), v]) aE25 (hM109.rd 1 rfl) (cel_obj b 0) rfl (lq rfl)) ?_
        refine xk 0 (words_c q h he v (hq.kept hM109.kept) (by omega)) (fun w138 m139 => ?_)
        have hM140 : Mem [] w0 w138 [⟨25, 8, (obj b2), 1, [.int .i64 (h.op), sS (h.field), sS (h.text), .int .i64 0, .int .i64 0, .int .u64 0, .int .u64 0, v]⟩, ⟨25, 8, (obj b), 1, [.int .i64 (h.op), sS (h.field), sS (h.text), .int .i64 (h.edits), .int .i64 (h.exact), .int .u64 (h.lo), .int .u64 (h.hi), v]⟩] := Mem.join (R := []) hM109 m139
        refine xb 3 (!(wordsP h)) (fun h142 => ?_) (fun h142 => ?_)
        ·
         have hM143 := hM140.sub (sD (sD sR))
         refine xr0 4 (v := .bool false) Tryz.func28 ?_
         rw [hR]
         have hall : rightL q.l = true := by rw [← tk_all (l := q.l) (i := i) (by omega)]; exact hRt
         have hro := right_of hall
         rw [← he] at hro
         exact ⟨ret_bool (by rw [hro, node_noword (by omega) (of_decide_eq_false (by have z := h142; simpa [wordsP] using z))]), hM143.sub sN⟩
        ·
         refine xh 3 [] hM140 (sK (sK sR)) (fun w159 hM160 hS161 => ?_)
         refine yl [0] 1 hS161 pE23 1 rfl (cel_obj b 7) rfl ?_
         refine yv [] 2 (fun W_ hW_ => (show (Builtin.len_ #[23] 3 #[v]).run Tryz.prog W_ = .ok (iN (List.length L)) W_ from f_slen sT23 (hr.kept0 hW_.kept) 3 _)) hS161 ?_
         rcases Bool.eq_false_or_eq_true ((((List.length L) : Nat) : Int) == 0) with h163 | h163
         ·
          have h163p : (((List.length L) : Nat) : Int) = 0 := eq_of_beq h163
          refine ye [3,4] 5 ((((List.length L) : Nat) : Int) == 0) true h163 hS161 ?_
          refine yv [] 6 (fun W_ hW_ => (show (Instr.loadAt 25 (pq b)).run Tryz.prog W_ = .ok (.agg #[.int .i64 (h.op), sS (h.field), sS (h.text), .int .i64 (h.edits), .int .i64 (h.exact), .int .u64 (h.lo), .int .u64 (h.hi), v]) W_ from c_loads (ys := [.int .i64 (h.op), sS (h.field), sS (h.text), .int .i64 (h.edits), .int .i64 (h.exact), .int .u64 (h.lo), .int .u64 (h.hi), v]) aE25 (hW_.rd 1 rfl) (cel_obj b 0) rfl (lq rfl))) hS161 ?_
          refine yv [] 8 (fun W_ hW_ => (show (Instr.loadAt 25 (pq b2)).run Tryz.prog W_ = .ok (.agg #[.int .i64 (h.op), sS (h.field), sS (h.text), .int .i64 0, .int .i64 0, .int .u64 0, .int .u64 0, v]) W_ from c_loads (ys := [.int .i64 (h.op), sS (h.field), sS (h.text), .int .i64 0, .int .i64 0, .int .u64 0, .int .u64 0, v]) aE25 (hW_.rd 0 rfl) (cel_obj b2 0) rfl (lq rfl))) hS161 ?_
          refine yck [] 7 (flat_c (w := w159) h v) hS161 (fun w164 m165 => ?_)
          have hM166 : Mem [] w0 w164 [⟨25, 8, (obj b2), 1, [.int .i64 (h.op), sS (h.field), sS (h.text), .int .i64 0, .int .i64 0, .int .u64 0, .int .u64 0, v]⟩, ⟨25, 8, (obj b), 1, [.int .i64 (h.op), sS (h.field), sS (h.text), .int .i64 (h.edits), .int .i64 (h.exact), .int .u64 (h.lo), .int .u64 (h.hi), v]⟩] := Mem.join (R := []) hM160 m165
          have hS167 := hM166.sub (sK (sK sR))
          refine ⟨hS167, ?_⟩
          refine yck [] 9 (flat_c (w := w164) (Hd.mk (h.op) (h.field) (h.text) 0 0 0 0) v) hS167 (fun w168 m169 => ?_)
          have hM170 : Mem [] w0 w168 [⟨25, 8, (obj b2), 1, [.int .i64 (h.op), sS (h.field), sS (h.text), .int .i64 0, .int .i64 0, .int .u64 0, .int .u64 0, v]⟩, ⟨25, 8, (obj b), 1, [.int .i64 (h.op), sS (h.field), sS (h.text), .int .i64 (h.edits), .int .i64 (h.exact), .int .u64 (h.lo), .int .u64 (h.hi), v]⟩] := Mem.join (R := []) hM166 m169
          have hS171 := hM170.sub (sK (sK sR))
          refine ⟨hS171, ?_⟩
          refine yp [] 10 (.bool (nothP h true false false)) (fun W_ hW_ => (show Tryz.prog.eqGuardType Tryz.prog.depth 68 = false ∧ (binOp .eql 68 (.agg #[.int .i64 (h.op), sS (h.field), sS (h.text), .int .i64 (h.edits), .int .i64 (h.exact), .int .u64 (h.lo), .int .u64 (h.hi)]) (.agg #[.int .i64 (h.op), sS (h.field), sS (h.text), .int .i64 0, .int .i64 0, .int .u64 0, .int .u64 0])).run Tryz.prog W_ = .ok (.bool (nothP h true false false)) W_ from f_ageq eT68 (xs := [.int .i64 (h.op), sS (h.field), sS (h.text), .int .i64 (h.edits), .int .i64 (h.exact), .int .u64 (h.lo), .int .u64 (h.hi)]) (ys := [.int .i64 (h.op), sS (h.field), sS (h.text), .int .i64 0, .int .i64 0, .int .u64 0, .int .u64 0]) (r := ((h.op == h.op) && (((sb (h.field)).toList == (sb (h.field)).toList) && (((sb (h.text)).toList == (sb (h.text)).toList) && ((h.edits == 0) && ((h.exact == 0) && ((h.lo == 0) && ((h.hi == 0) && true)))))))) (by kernel_rfl) (noth_t h))) hS171 ?_
          refine ydp [11,12] hS171 ?_
          have hM172 := hM170.sub (sD (sD sR))
          refine xr0 0 (v := .bool (nothP h true false false)) Tryz.func28 ?_
          rw [hR]
          have hall : rightL q.l = true := by rw [← tk_all (l := q.l) (i := i) (by omega)]; exact hRt
          have hro := right_of hall
          rw [← he] at hro
          exact ⟨ret_bool (by rw [hro, node_word (by omega) (by have z := h136; simpa using z) (of_decide_eq_true (by have z := h142; simpa [wordsP] using z)) (by omega), if_neg (by omega)]), hM172.sub sN⟩
         ·
          have h163p : ¬ ((((List.length L) : Nat) : Int) = 0) := p_ne h163
          refine ye [3,4] 5 ((((List.length L) : Nat) : Int) == 0) false h163 hS161 ?_
          refine ydp [6,7,8,9,10,11,12] hS161 ?_
          have hM173 := hM160.sub (sD (sD sR))
          refine xr0 0 (v := .bool false) Tryz.func28 ?_
          rw [hR]
          have hall : rightL q.l = true := by rw [← tk_all (l := q.l) (i := i) (by omega)]; exact hRt
          have hro := right_of hall
          rw [← he] at hro
          exact ⟨ret_bool (by rw [hro, node_many (by omega) (by omega)]), hM173.sub sN⟩
     ·
      have h97 : (h.op == 2) = false := by simpa using h97p
      rw [h17] at h97; cases h97
    ·
     refine xc 5 (h.op = 3) (fun h18p => ?_) (fun h18p => ?_)
     ·
      have h18 : (h.op == 3) = true := by simpa using h18p
      refine xc 1 (h.op = 3) (fun h174p => ?_) (fun h174p => ?_)
      ·
       refine xh 1 [7] hM9 (sD (sK sR)) (fun w175 hM176 hS177 => ?_)
       refine yl [0] 1 hS177 pE9 0 rfl (cel_obj b 1) rfl ?_
       refine yl [2] 3 hS177 pE9 0 rfl (cel_obj b 2) rfl ?_
       refine yst [4] 5 (c_store (E := 9) (u := sS (h.field)) (by kernel_rfl) hM176 0 rfl (cel_obj b2 1) (by decide) rfl rfl) hS177 (fun _ h_ => h_.sub (sD (sK sR))) (fun w179 hM181 hS183 => ?_)
       refine ysw [6] 7 (c_store (E := 9) (u := sS (h.text)) (by kernel_rfl) hM181 0 rfl (cel_obj b2 2) (by decide) rfl rfl) hS183 (fun w184 hM186 => ?_)
       refine yd ?_
       refine xv 4 (c_load pE3 (hM186.rd 1 rfl) (cel_obj b 0) rfl) ?_
       refine xc 2 (h.op = 4) (fun h189p => ?_) (fun h189p => ?_)
       ·
        refine xh 0 [7] hM186 (sD (sK sR)) (fun w190 hM191 hS192 => ?_)
        refine yl [0] 1 hS192 pE3 0 rfl (cel_obj b 3) rfl ?_
        refine yl [2] 3 hS192 pE3 0 rfl (cel_obj b 4) rfl ?_
        refine yst [4] 5 (c_store (E := 3) (u := .int .i64 (h.edits)) (by kernel_rfl) hM191 0 rfl (cel_obj b2 3) (by decide) rfl rfl) hS192 (fun _ h_ => h_.sub (sD (sK sR))) (fun w194 hM196 hS198 => ?_)
        refine ysw [6] 7 (c_store (E := 3) (u := .int .i64 (h.exact)) (by kernel_rfl) hM196 0 rfl (cel_obj b2 4) (by decide) rfl rfl) hS198 (fun w199 hM201 => ?_)
        refine yd ?_
        refine xv 3 (c_load pE9 (hM201.rd 1 rfl) (cel_obj b 1) rfl) ?_
        refine xka 0 (name_c (h.field) (by rw [he]; omega) w199) ?_
        refine xf 2 50 (!(nameP (h.field))) (fun h204 => ?_) (fun h204 => ?_)
        ·
         have hM209 := hM201.sub (sD (sD sR))
         refine xr0 10 (v := .bool false) Tryz.func28 ?_
         rw [hR]
         have hall : rightL q.l = true := by rw [← tk_all (l := q.l) (i := i) (by omega)]; exact hRt
         have hro := right_of hall
         rw [← he] at hro
         exact ⟨ret_bool (by rw [hro, node_name (by omega) (by have z := h204; simpa using z)]), hM209.sub sN⟩
        ·
         refine xv 0 (c_loads (ys := [.int .i64 (h.op), sS (h.field), sS (h.text), .int .i64 (h.edits), .int .i64 (h.exact), .int .u64 (h.lo), .int .u64 (h.hi), v]) aE25 (hM201.rd 1 rfl) (cel_obj b 0) rfl (lq rfl)) ?_
         refine xk 0 (words_c q h he v (hq.kept hM201.kept) (by omega)) (fun w206 m207 => ?_)
         have hM208 : Mem [] w0 w206 [⟨25, 8, (obj b2), 1, [.int .i64 (h.op), sS (h.field), sS (h.text), .int .i64 (h.edits), .int .i64 (h.exact), .int .u64 0, .int .u64 0, v]⟩, ⟨25, 8, (obj b), 1, [.int .i64 (h.op), sS (h.field), sS (h.text), .int .i64 (h.edits), .int .i64 (h.exact), .int .u64 (h.lo), .int .u64 (h.hi), v]⟩] := Mem.join (R := []) hM201 m207
         refine xb 3 (!(wordsP h)) (fun h210 => ?_) (fun h210 => ?_)
         ·
          have hM211 := hM208.sub (sD (sD sR))
          refine xr0 4 (v := .bool false) Tryz.func28 ?_
          rw [hR]
          have hall : rightL q.l = true := by rw [← tk_all (l := q.l) (i := i) (by omega)]; exact hRt
          have hro := right_of hall
          rw [← he] at hro
          exact ⟨ret_bool (by rw [hro, node_noword (by omega) (of_decide_eq_false (by have z := h210; simpa [wordsP] using z))]), hM211.sub sN⟩
         ·
          refine xh 3 [] hM208 (sK (sK sR)) (fun w221 hM222 hS223 => ?_)
          refine yl [0] 1 hS223 pE23 1 rfl (cel_obj b 7) rfl ?_
          refine yv [] 2 (fun W_ hW_ => (show (Builtin.len_ #[23] 3 #[v]).run Tryz.prog W_ = .ok (iN (List.length L)) W_ from f_slen sT23 (hr.kept0 hW_.kept) 3 _)) hS223 ?_
          rcases Bool.eq_false_or_eq_true ((((List.length L) : Nat) : Int) == 0) with h225 | h225
          ·
           have h225p : (((List.length L) : Nat) : Int) = 0 := eq_of_beq h225
           refine ye [3,4] 5 ((((List.length L) : Nat) : Int) == 0) true h225 hS223 ?_
           refine yv [] 6 (fun W_ hW_ => (show (Instr.loadAt 25 (pq b)).run Tryz.prog W_ = .ok (.agg #[.int .i64 (h.op), sS (h.field), sS (h.text), .int .i64 (h.edits), .int .i64 (h.exact), .int .u64 (h.lo), .int .u64 (h.hi), v]) W_ from c_loads (ys := [.int .i64 (h.op), sS (h.field), sS (h.text), .int .i64 (h.edits), .int .i64 (h.exact), .int .u64 (h.lo), .int .u64 (h.hi), v]) aE25 (hW_.rd 1 rfl) (cel_obj b 0) rfl (lq rfl))) hS223 ?_
           refine yv [] 8 (fun W_ hW_ => (show (Instr.loadAt 25 (pq b2)).run Tryz.prog W_ = .ok (.agg #[.int .i64 (h.op), sS (h.field), sS (h.text), .int .i64 (h.edits), .int .i64 (h.exact), .int .u64 0, .int .u64 0, v]) W_ from c_loads (ys := [.int .i64 (h.op), sS (h.field), sS (h.text), .int .i64 (h.edits), .int .i64 (h.exact), .int .u64 0, .int .u64 0, v]) aE25 (hW_.rd 0 rfl) (cel_obj b2 0) rfl (lq rfl))) hS223 ?_
           refine yck [] 7 (flat_c (w := w221) h v) hS223 (fun w226 m227 => ?_)
           have hM228 : Mem [] w0 w226 [⟨25, 8, (obj b2), 1, [.int .i64 (h.op), sS (h.field), sS (h.text), .int .i64 (h.edits), .int .i64 (h.exact), .int .u64 0, .int .u64 0, v]⟩, ⟨25, 8, (obj b), 1, [.int .i64 (h.op), sS (h.field), sS (h.text), .int .i64 (h.edits), .int .i64 (h.exact), .int .u64 (h.lo), .int .u64 (h.hi), v]⟩] := Mem.join (R := []) hM222 m227
           have hS229 := hM228.sub (sK (sK sR))
           refine ⟨hS229, ?_⟩
           refine yck [] 9 (flat_c (w := w226) (Hd.mk (h.op) (h.field) (h.text) (h.edits) (h.exact) 0 0) v) hS229 (fun w230 m231 => ?_)
           have hM232 : Mem [] w0 w230 [⟨25, 8, (obj b2), 1, [.int .i64 (h.op), sS (h.field), sS (h.text), .int .i64 (h.edits), .int .i64 (h.exact), .int .u64 0, .int .u64 0, v]⟩, ⟨25, 8, (obj b), 1, [.int .i64 (h.op), sS (h.field), sS (h.text), .int .i64 (h.edits), .int .i64 (h.exact), .int .u64 (h.lo), .int .u64 (h.hi), v]⟩] := Mem.join (R := []) hM228 m231
           have hS233 := hM232.sub (sK (sK sR))
           refine ⟨hS233, ?_⟩
           refine yp [] 10 (.bool (nothP h true true false)) (fun W_ hW_ => (show Tryz.prog.eqGuardType Tryz.prog.depth 68 = false ∧ (binOp .eql 68 (.agg #[.int .i64 (h.op), sS (h.field), sS (h.text), .int .i64 (h.edits), .int .i64 (h.exact), .int .u64 (h.lo), .int .u64 (h.hi)]) (.agg #[.int .i64 (h.op), sS (h.field), sS (h.text), .int .i64 (h.edits), .int .i64 (h.exact), .int .u64 0, .int .u64 0])).run Tryz.prog W_ = .ok (.bool (nothP h true true false)) W_ from f_ageq eT68 (xs := [.int .i64 (h.op), sS (h.field), sS (h.text), .int .i64 (h.edits), .int .i64 (h.exact), .int .u64 (h.lo), .int .u64 (h.hi)]) (ys := [.int .i64 (h.op), sS (h.field), sS (h.text), .int .i64 (h.edits), .int .i64 (h.exact), .int .u64 0, .int .u64 0]) (r := ((h.op == h.op) && (((sb (h.field)).toList == (sb (h.field)).toList) && (((sb (h.text)).toList == (sb (h.text)).toList) && ((h.edits == h.edits) && ((h.exact == h.exact) && ((h.lo == 0) && ((h.hi == 0) && true)))))))) (by kernel_rfl) (noth_f h))) hS233 ?_
           refine ydp [11,12] hS233 ?_
           have hM234 := hM232.sub (sD (sD sR))
           refine xr0 0 (v := .bool (nothP h true true false)) Tryz.func28 ?_
           rw [hR]
           have hall : rightL q.l = true := by rw [← tk_all (l := q.l) (i := i) (by omega)]; exact hRt
           have hro := right_of hall
           rw [← he] at hro
           exact ⟨ret_bool (by rw [hro, node_word (by omega) (by have z := h204; simpa using z) (of_decide_eq_true (by have z := h210; simpa [wordsP] using z)) (by omega), if_pos (by omega)]), hM234.sub sN⟩
          ·
           have h225p : ¬ ((((List.length L) : Nat) : Int) = 0) := p_ne h225
           refine ye [3,4] 5 ((((List.length L) : Nat) : Int) == 0) false h225 hS223 ?_
           refine ydp [6,7,8,9,10,11,12] hS223 ?_
           have hM235 := hM222.sub (sD (sD sR))
           refine xr0 0 (v := .bool false) Tryz.func28 ?_
           rw [hR]
           have hall : rightL q.l = true := by rw [← tk_all (l := q.l) (i := i) (by omega)]; exact hRt
           have hro := right_of hall
           rw [← he] at hro
           exact ⟨ret_bool (by rw [hro, node_many (by omega) (by omega)]), hM235.sub sN⟩
       ·
        refine xv 4 (c_load pE9 (hM186.rd 1 rfl) (cel_obj b 1) rfl) ?_
        refine xka 0 (name_c (h.field) (by rw [he]; omega) w184) ?_
        refine xf 2 50 (!(nameP (h.field))) (fun h213 => ?_) (fun h213 => ?_)
        ·
         have hM218 := hM186.sub (sD (sD sR))
         refine xr0 10 (v := .bool false) Tryz.func28 ?_
         rw [hR]
         have hall : rightL q.l = true := by rw [← tk_all (l := q.l) (i := i) (by omega)]; exact hRt
         have hro := right_of hall
         rw [← he] at hro
         exact ⟨ret_bool (by rw [hro, node_name (by omega) (by have z := h213; simpa using z)]), hM218.sub sN⟩
        ·
         refine xv 0 (c_loads (ys := [.int .i64 (h.op), sS (h.field), sS (h.text), .int .i64 (h.edits), .int .i64 (h.exact), .int .u64 (h.lo), .int .u64 (h.hi), v]) aE25 (hM186.rd 1 rfl) (cel_obj b 0) rfl (lq rfl)) ?_
         refine xk 0 (words_c q h he v (hq.kept hM186.kept) (by omega)) (fun w215 m216 => ?_)
         have hM217 : Mem [] w0 w215 [⟨25, 8, (obj b2), 1, [.int .i64 (h.op), sS (h.field), sS (h.text), .int .i64 0, .int .i64 0, .int .u64 0, .int .u64 0, v]⟩, ⟨25, 8, (obj b), 1, [.int .i64 (h.op), sS (h.field), sS (h.text), .int .i64 (h.edits), .int .i64 (h.exact), .int .u64 (h.lo), .int .u64 (h.hi), v]⟩] := Mem.join (R := []) hM186 m216
         refine xb 3 (!(wordsP h)) (fun h219 => ?_) (fun h219 => ?_)
         ·
          have hM220 := hM217.sub (sD (sD sR))
          refine xr0 4 (v := .bool false) Tryz.func28 ?_
          rw [hR]
          have hall : rightL q.l = true := by rw [← tk_all (l := q.l) (i := i) (by omega)]; exact hRt
          have hro := right_of hall
          rw [← he] at hro
          exact ⟨ret_bool (by rw [hro, node_noword (by omega) (of_decide_eq_false (by have z := h219; simpa [wordsP] using z))]), hM220.sub sN⟩
         ·
          refine xh 3 [] hM217 (sK (sK sR)) (fun w236 hM237 hS238 => ?_)
          refine yl [0] 1 hS238 pE23 1 rfl (cel_obj b 7) rfl ?_
          refine yv [] 2 (fun W_ hW_ => (show (Builtin.len_ #[23] 3 #[v]).run Tryz.prog W_ = .ok (iN (List.length L)) W_ from f_slen sT23 (hr.kept0 hW_.kept) 3 _)) hS238 ?_
          rcases Bool.eq_false_or_eq_true ((((List.length L) : Nat) : Int) == 0) with h240 | h240
          ·
           have h240p : (((List.length L) : Nat) : Int) = 0 := eq_of_beq h240
           refine ye [3,4] 5 ((((List.length L) : Nat) : Int) == 0) true h240 hS238 ?_
           refine yv [] 6 (fun W_ hW_ => (show (Instr.loadAt 25 (pq b)).run Tryz.prog W_ = .ok (.agg #[.int .i64 (h.op), sS (h.field), sS (h.text), .int .i64 (h.edits), .int .i64 (h.exact), .int .u64 (h.lo), .int .u64 (h.hi), v]) W_ from c_loads (ys := [.int .i64 (h.op), sS (h.field), sS (h.text), .int .i64 (h.edits), .int .i64 (h.exact), .int .u64 (h.lo), .int .u64 (h.hi), v]) aE25 (hW_.rd 1 rfl) (cel_obj b 0) rfl (lq rfl))) hS238 ?_
           refine yv [] 8 (fun W_ hW_ => (show (Instr.loadAt 25 (pq b2)).run Tryz.prog W_ = .ok (.agg #[.int .i64 (h.op), sS (h.field), sS (h.text), .int .i64 0, .int .i64 0, .int .u64 0, .int .u64 0, v]) W_ from c_loads (ys := [.int .i64 (h.op), sS (h.field), sS (h.text), .int .i64 0, .int .i64 0, .int .u64 0, .int .u64 0, v]) aE25 (hW_.rd 0 rfl) (cel_obj b2 0) rfl (lq rfl))) hS238 ?_
           refine yck [] 7 (flat_c (w := w236) h v) hS238 (fun w241 m242 => ?_)
           have hM243 : Mem [] w0 w241 [⟨25, 8, (obj b2), 1, [.int .i64 (h.op), sS (h.field), sS (h.text), .int .i64 0, .int .i64 0, .int .u64 0, .int .u64 0, v]⟩, ⟨25, 8, (obj b), 1, [.int .i64 (h.op), sS (h.field), sS (h.text), .int .i64 (h.edits), .int .i64 (h.exact), .int .u64 (h.lo), .int .u64 (h.hi), v]⟩] := Mem.join (R := []) hM237 m242
           have hS244 := hM243.sub (sK (sK sR))
           refine ⟨hS244, ?_⟩
           refine yck [] 9 (flat_c (w := w241) (Hd.mk (h.op) (h.field) (h.text) 0 0 0 0) v) hS244 (fun w245 m246 => ?_)
           have hM247 : Mem [] w0 w245 [⟨25, 8, (obj b2), 1, [.int .i64 (h.op), sS (h.field), sS (h.text), .int .i64 0, .int .i64 0, .int .u64 0, .int .u64 0, v]⟩, ⟨25, 8, (obj b), 1, [.int .i64 (h.op), sS (h.field), sS (h.text), .int .i64 (h.edits), .int .i64 (h.exact), .int .u64 (h.lo), .int .u64 (h.hi), v]⟩] := Mem.join (R := []) hM243 m246
           have hS248 := hM247.sub (sK (sK sR))
           refine ⟨hS248, ?_⟩
           refine yp [] 10 (.bool (nothP h true false false)) (fun W_ hW_ => (show Tryz.prog.eqGuardType Tryz.prog.depth 68 = false ∧ (binOp .eql 68 (.agg #[.int .i64 (h.op), sS (h.field), sS (h.text), .int .i64 (h.edits), .int .i64 (h.exact), .int .u64 (h.lo), .int .u64 (h.hi)]) (.agg #[.int .i64 (h.op), sS (h.field), sS (h.text), .int .i64 0, .int .i64 0, .int .u64 0, .int .u64 0])).run Tryz.prog W_ = .ok (.bool (nothP h true false false)) W_ from f_ageq eT68 (xs := [.int .i64 (h.op), sS (h.field), sS (h.text), .int .i64 (h.edits), .int .i64 (h.exact), .int .u64 (h.lo), .int .u64 (h.hi)]) (ys := [.int .i64 (h.op), sS (h.field), sS (h.text), .int .i64 0, .int .i64 0, .int .u64 0, .int .u64 0]) (r := ((h.op == h.op) && (((sb (h.field)).toList == (sb (h.field)).toList) && (((sb (h.text)).toList == (sb (h.text)).toList) && ((h.edits == 0) && ((h.exact == 0) && ((h.lo == 0) && ((h.hi == 0) && true)))))))) (by kernel_rfl) (noth_t h))) hS248 ?_
           refine ydp [11,12] hS248 ?_
           have hM249 := hM247.sub (sD (sD sR))
           refine xr0 0 (v := .bool (nothP h true false false)) Tryz.func28 ?_
           rw [hR]
           have hall : rightL q.l = true := by rw [← tk_all (l := q.l) (i := i) (by omega)]; exact hRt
           have hro := right_of hall
           rw [← he] at hro
           exact ⟨ret_bool (by rw [hro, node_word (by omega) (by have z := h213; simpa using z) (of_decide_eq_true (by have z := h219; simpa [wordsP] using z)) (by omega), if_neg (by omega)]), hM249.sub sN⟩
          ·
           have h240p : ¬ ((((List.length L) : Nat) : Int) = 0) := p_ne h240
           refine ye [3,4] 5 ((((List.length L) : Nat) : Int) == 0) false h240 hS238 ?_
           refine ydp [6,7,8,9,10,11,12] hS238 ?_
           have hM250 := hM237.sub (sD (sD sR))
           refine xr0 0 (v := .bool false) Tryz.func28 ?_
           rw [hR]
           have hall : rightL q.l = true := by rw [← tk_all (l := q.l) (i := i) (by omega)]; exact hRt
           have hro := right_of hall
           rw [← he] at hro
           exact ⟨ret_bool (by rw [hro, node_many (by omega) (by omega)]), hM250.sub sN⟩
      ·
       have h174 : (h.op == 3) = false := by simpa using h174p
       rw [h18] at h174; cases h174
     ·
      refine xc 5 (h.op = 4) (fun h19p => ?_) (fun h19p => ?_)
      ·
       have h19 : (h.op == 4) = true := by simpa using h19p
       refine xc 1 (h.op = 4) (fun h251p => ?_) (fun h251p => ?_)
       ·
        refine xh 1 [7] hM9 (sD (sK sR)) (fun w252 hM253 hS254 => ?_)
        refine yl [0] 1 hS254 pE9 0 rfl (cel_obj b 1) rfl ?_
        refine yl [2] 3 hS254 pE9 0 rfl (cel_obj b 2) rfl ?_
        refine yst [4] 5 (c_store (E := 9) (u := sS (h.field)) (by kernel_rfl) hM253 0 rfl (cel_obj b2 1) (by decide) rfl rfl) hS254 (fun _ h_ => h_.sub (sD (sK sR))) (fun w256 hM258 hS260 => ?_)
        refine ysw [6] 7 (c_store (E := 9) (u := sS (h.text)) (by kernel_rfl) hM258 0 rfl (cel_obj b2 2) (by decide) rfl rfl) hS260 (fun w261 hM263 => ?_)
        refine yd ?_
        refine xv 4 (c_load pE3 (hM263.rd 1 rfl) (cel_obj b 0) rfl) ?_
        refine xc 2 (h.op = 4) (fun h266p => ?_) (fun h266p => ?_)
        ·
         refine xh 0 [7] hM263 (sD (sK sR)) (fun w267 hM268 hS269 => ?_)
         refine yl [0] 1 hS269 pE3 0 rfl (cel_obj b 3) rfl ?_
         refine yl [2] 3 hS269 pE3 0 rfl (cel_obj b 4) rfl ?_
         refine yst [4] 5 (c_store (E := 3) (u := .int .i64 (h.edits)) (by kernel_rfl) hM268 0 rfl (cel_obj b2 3) (by decide) rfl rfl) hS269 (fun _ h_ => h_.sub (sD (sK sR))) (fun w271 hM273 hS275 => ?_)
         refine ysw [6] 7 (c_store (E := 3) (u := .int .i64 (h.exact)) (by kernel_rfl) hM273 0 rfl (cel_obj b2 4) (by decide) rfl rfl) hS275 (fun w276 hM278 => ?_)
         refine yd ?_
         refine xv 3 (c_load pE9 (hM278.rd 1 rfl) (cel_obj b 1) rfl) ?_
         refine xka 0 (name_c (h.field) (by rw [he]; omega) w276) ?_
         refine xf 2 50 (!(nameP (h.field))) (fun h281 => ?_) (fun h281 => ?_)
         ·
          have hM286 := hM278.sub (sD (sD sR))
          refine xr0 10 (v := .bool false) Tryz.func28 ?_
          rw [hR]
          have hall : rightL q.l = true := by rw [← tk_all (l := q.l) (i := i) (by omega)]; exact hRt
          have hro := right_of hall
          rw [← he] at hro
          exact ⟨ret_bool (by rw [hro, node_name (by omega) (by have z := h281; simpa using z)]), hM286.sub sN⟩
         ·
          refine xv 0 (c_loads (ys := [.int .i64 (h.op), sS (h.field), sS (h.text), .int .i64 (h.edits), .int .i64 (h.exact), .int .u64 (h.lo), .int .u64 (h.hi), v]) aE25 (hM278.rd 1 rfl) (cel_obj b 0) rfl (lq rfl)) ?_
          refine xk 0 (words_c q h he v (hq.kept hM278.kept) (by omega)) (fun w283 m284 => ?_)
          have hM285 : Mem [] w0 w283 [⟨25, 8, (obj b2), 1, [.int .i64 (h.op), sS (h.field), sS (h.text), .int .i64 (h.edits), .int .i64 (h.exact), .int .u64 0, .int .u64 0, v]⟩, ⟨25, 8, (obj b), 1, [.int .i64 (h.op), sS (h.field), sS (h.text), .int .i64 (h.edits), .int .i64 (h.exact), .int .u64 (h.lo), .int .u64 (h.hi), v]⟩] := Mem.join (R := []) hM278 m284
          refine xb 3 (!(wordsP h)) (fun h287 => ?_) (fun h287 => ?_)
          ·
           have hM288 := hM285.sub (sD (sD sR))
           refine xr0 4 (v := .bool false) Tryz.func28 ?_
           rw [hR]
           have hall : rightL q.l = true := by rw [← tk_all (l := q.l) (i := i) (by omega)]; exact hRt
           have hro := right_of hall
           rw [← he] at hro
           exact ⟨ret_bool (by rw [hro, node_noword (by omega) (of_decide_eq_false (by have z := h287; simpa [wordsP] using z))]), hM288.sub sN⟩
          ·
           refine xh 3 [] hM285 (sK (sK sR)) (fun w289 hM290 hS291 => ?_)
           refine yl [0] 1 hS291 pE23 1 rfl (cel_obj b 7) rfl ?_
           refine yv [] 2 (fun W_ hW_ => (show (Builtin.len_ #[23] 3 #[v]).run Tryz.prog W_ = .ok (iN (List.length L)) W_ from f_slen sT23 (hr.kept0 hW_.kept) 3 _)) hS291 ?_
           rcases Bool.eq_false_or_eq_true ((((List.length L) : Nat) : Int) == 0) with h293 | h293
           ·
            have h293p : (((List.length L) : Nat) : Int) = 0 := eq_of_beq h293
            refine ye [3,4] 5 ((((List.length L) : Nat) : Int) == 0) true h293 hS291 ?_
            refine yv [] 6 (fun W_ hW_ => (show (Instr.loadAt 25 (pq b)).run Tryz.prog W_ = .ok (.agg #[.int .i64 (h.op), sS (h.field), sS (h.text), .int .i64 (h.edits), .int .i64 (h.exact), .int .u64 (h.lo), .int .u64 (h.hi), v]) W_ from c_loads (ys := [.int .i64 (h.op), sS (h.field), sS (h.text), .int .i64 (h.edits), .int .i64 (h.exact), .int .u64 (h.lo), .int .u64 (h.hi), v]) aE25 (hW_.rd 1 rfl) (cel_obj b 0) rfl (lq rfl))) hS291 ?_
            refine yv [] 8 (fun W_ hW_ => (show (Instr.loadAt 25 (pq b2)).run Tryz.prog W_ = .ok (.agg #[.int .i64 (h.op), sS (h.field), sS (h.text), .int .i64 (h.edits), .int .i64 (h.exact), .int .u64 0, .int .u64 0, v]) W_ from c_loads (ys := [.int .i64 (h.op), sS (h.field), sS (h.text), .int .i64 (h.edits), .int .i64 (h.exact), .int .u64 0, .int .u64 0, v]) aE25 (hW_.rd 0 rfl) (cel_obj b2 0) rfl (lq rfl))) hS291 ?_
            refine yck [] 7 (flat_c (w := w289) h v) hS291 (fun w294 m295 => ?_)
            have hM296 : Mem [] w0 w294 [⟨25, 8, (obj b2), 1, [.int .i64 (h.op), sS (h.field), sS (h.text), .int .i64 (h.edits), .int .i64 (h.exact), .int .u64 0, .int .u64 0, v]⟩, ⟨25, 8, (obj b), 1, [.int .i64 (h.op), sS (h.field), sS (h.text), .int .i64 (h.edits), .int .i64 (h.exact), .int .u64 (h.lo), .int .u64 (h.hi), v]⟩] := Mem.join (R := []) hM290 m295
            have hS297 := hM296.sub (sK (sK sR))
            refine ⟨hS297, ?_⟩
            refine yck [] 9 (flat_c (w := w294) (Hd.mk (h.op) (h.field) (h.text) (h.edits) (h.exact) 0 0) v) hS297 (fun w298 m299 => ?_)
            have hM300 : Mem [] w0 w298 [⟨25, 8, (obj b2), 1, [.int .i64 (h.op), sS (h.field), sS (h.text), .int .i64 (h.edits), .int .i64 (h.exact), .int .u64 0, .int .u64 0, v]⟩, ⟨25, 8, (obj b), 1, [.int .i64 (h.op), sS (h.field), sS (h.text), .int .i64 (h.edits), .int .i64 (h.exact), .int .u64 (h.lo), .int .u64 (h.hi), v]⟩] := Mem.join (R := []) hM296 m299
            have hS301 := hM300.sub (sK (sK sR))
            refine ⟨hS301, ?_⟩
            refine yp [] 10 (.bool (nothP h true true false)) (fun W_ hW_ => (show Tryz.prog.eqGuardType Tryz.prog.depth 68 = false ∧ (binOp .eql 68 (.agg #[.int .i64 (h.op), sS (h.field), sS (h.text), .int .i64 (h.edits), .int .i64 (h.exact), .int .u64 (h.lo), .int .u64 (h.hi)]) (.agg #[.int .i64 (h.op), sS (h.field), sS (h.text), .int .i64 (h.edits), .int .i64 (h.exact), .int .u64 0, .int .u64 0])).run Tryz.prog W_ = .ok (.bool (nothP h true true false)) W_ from f_ageq eT68 (xs := [.int .i64 (h.op), sS (h.field), sS (h.text), .int .i64 (h.edits), .int .i64 (h.exact), .int .u64 (h.lo), .int .u64 (h.hi)]) (ys := [.int .i64 (h.op), sS (h.field), sS (h.text), .int .i64 (h.edits), .int .i64 (h.exact), .int .u64 0, .int .u64 0]) (r := ((h.op == h.op) && (((sb (h.field)).toList == (sb (h.field)).toList) && (((sb (h.text)).toList == (sb (h.text)).toList) && ((h.edits == h.edits) && ((h.exact == h.exact) && ((h.lo == 0) && ((h.hi == 0) && true)))))))) (by kernel_rfl) (noth_f h))) hS301 ?_
            refine ydp [11,12] hS301 ?_
            have hM302 := hM300.sub (sD (sD sR))
            refine xr0 0 (v := .bool (nothP h true true false)) Tryz.func28 ?_
            rw [hR]
            have hall : rightL q.l = true := by rw [← tk_all (l := q.l) (i := i) (by omega)]; exact hRt
            have hro := right_of hall
            rw [← he] at hro
            exact ⟨ret_bool (by rw [hro, node_word (by omega) (by have z := h281; simpa using z) (of_decide_eq_true (by have z := h287; simpa [wordsP] using z)) (by omega), if_pos (by omega)]), hM302.sub sN⟩
           ·
            have h293p : ¬ ((((List.length L) : Nat) : Int) = 0) := p_ne h293
            refine ye [3,4] 5 ((((List.length L) : Nat) : Int) == 0) false h293 hS291 ?_
            refine ydp [6,7,8,9,10,11,12] hS291 ?_
            have hM303 := hM290.sub (sD (sD sR))
            refine xr0 0 (v := .bool false) Tryz.func28 ?_
            rw [hR]
            have hall : rightL q.l = true := by rw [← tk_all (l := q.l) (i := i) (by omega)]; exact hRt
            have hro := right_of hall
            rw [← he] at hro
            exact ⟨ret_bool (by rw [hro, node_many (by omega) (by omega)]), hM303.sub sN⟩
        ·
         have h266 : (h.op == 4) = false := by simpa using h266p
         rw [h19] at h266; cases h266
       ·
        have h251 : (h.op == 4) = false := by simpa using h251p
        rw [h19] at h251; cases h251
      ·
       have h19 : (h.op == 4) = false := by simpa using h19p
       refine xc 4 (h.op = 5) (fun h304p => ?_) (fun h304p => ?_)
       ·
        refine xh 1 [7] hM9 (sD (sK sR)) (fun w305 hM306 hS307 => ?_)
        refine yl [0] 1 hS307 pE9 0 rfl (cel_obj b 1) rfl ?_
        refine yl [2] 3 hS307 pE9 0 rfl (cel_obj b 2) rfl ?_
        refine yst [4] 5 (c_store (E := 9) (u := sS (h.field)) (by kernel_rfl) hM306 0 rfl (cel_obj b2 1) (by decide) rfl rfl) hS307 (fun _ h_ => h_.sub (sD (sK sR))) (fun w309 hM311 hS313 => ?_)
        refine ysw [6] 7 (c_store (E := 9) (u := sS (h.text)) (by kernel_rfl) hM311 0 rfl (cel_obj b2 2) (by decide) rfl rfl) hS313 (fun w314 hM316 => ?_)
        refine yd ?_
        refine xv 4 (c_load pE3 (hM316.rd 1 rfl) (cel_obj b 0) rfl) ?_
        refine xc 2 (h.op = 4) (fun h319p => ?_) (fun h319p => ?_)
        ·
         have h319 : (h.op == 4) = true := by simpa using h319p
         rw [h19] at h319; cases h319
        ·
         refine xv 4 (c_load pE9 (hM316.rd 1 rfl) (cel_obj b 1) rfl) ?_
         refine xka 0 (name_c (h.field) (by rw [he]; omega) w314) ?_
         refine xf 2 50 (!(nameP (h.field))) (fun h321 => ?_) (fun h321 => ?_)
         ·
          have hM326 := hM316.sub (sD (sD sR))
          refine xr0 10 (v := .bool false) Tryz.func28 ?_
          rw [hR]
          have hall : rightL q.l = true := by rw [← tk_all (l := q.l) (i := i) (by omega)]; exact hRt
          have hro := right_of hall
          rw [← he] at hro
          exact ⟨ret_bool (by rw [hro, node_name (by omega) (by have z := h321; simpa using z)]), hM326.sub sN⟩
         ·
          refine xv 0 (c_loads (ys := [.int .i64 (h.op), sS (h.field), sS (h.text), .int .i64 (h.edits), .int .i64 (h.exact), .int .u64 (h.lo), .int .u64 (h.hi), v]) aE25 (hM316.rd 1 rfl) (cel_obj b 0) rfl (lq rfl)) ?_
          refine xk 0 (words_c q h he v (hq.kept hM316.kept) (by omega)) (fun w323 m324 => ?_)
          have hM325 : Mem [] w0 w323 [⟨25, 8, (obj b2), 1, [.int .i64 (h.op), sS (h.field), sS (h.text), .int .i64 0, .int .i64 0, .int .u64 0, .int .u64 0, v]⟩, ⟨25, 8, (obj b), 1, [.int .i64 (h.op), sS (h.field), sS (h.text), .int .i64 (h.edits), .int .i64 (h.exact), .int .u64 (h.lo), .int .u64 (h.hi), v]⟩] := Mem.join (R := []) hM316 m324
          refine xb 3 (!(wordsP h)) (fun h327 => ?_) (fun h327 => ?_)
          ·
           have hM328 := hM325.sub (sD (sD sR))
           refine xr0 4 (v := .bool false) Tryz.func28 ?_
           rw [hR]
           have hall : rightL q.l = true := by rw [← tk_all (l := q.l) (i := i) (by omega)]; exact hRt
           have hro := right_of hall
           rw [← he] at hro
           exact ⟨ret_bool (by rw [hro, node_noword (by omega) (of_decide_eq_false (by have z := h327; simpa [wordsP] using z))]), hM328.sub sN⟩
          ·
           refine xh 3 [] hM325 (sK (sK sR)) (fun w363 hM364 hS365 => ?_)
           refine yl [0] 1 hS365 pE23 1 rfl (cel_obj b 7) rfl ?_
           refine yv [] 2 (fun W_ hW_ => (show (Builtin.len_ #[23] 3 #[v]).run Tryz.prog W_ = .ok (iN (List.length L)) W_ from f_slen sT23 (hr.kept0 hW_.kept) 3 _)) hS365 ?_
           rcases Bool.eq_false_or_eq_true ((((List.length L) : Nat) : Int) == 0) with h367 | h367
           ·
            have h367p : (((List.length L) : Nat) : Int) = 0 := eq_of_beq h367
            refine ye [3,4] 5 ((((List.length L) : Nat) : Int) == 0) true h367 hS365 ?_
            refine yv [] 6 (fun W_ hW_ => (show (Instr.loadAt 25 (pq b)).run Tryz.prog W_ = .ok (.agg #[.int .i64 (h.op), sS (h.field), sS (h.text), .int .i64 (h.edits), .int .i64 (h.exact), .int .u64 (h.lo), .int .u64 (h.hi), v]) W_ from c_loads (ys := [.int .i64 (h.op), sS (h.field), sS (h.text), .int .i64 (h.edits), .int .i64 (h.exact), .int .u64 (h.lo), .int .u64 (h.hi), v]) aE25 (hW_.rd 1 rfl) (cel_obj b 0) rfl (lq rfl))) hS365 ?_
            refine yv [] 8 (fun W_ hW_ => (show (Instr.loadAt 25 (pq b2)).run Tryz.prog W_ = .ok (.agg #[.int .i64 (h.op), sS (h.field), sS (h.text), .int .i64 0, .int .i64 0, .int .u64 0, .int .u64 0, v]) W_ from c_loads (ys := [.int .i64 (h.op), sS (h.field), sS (h.text), .int .i64 0, .int .i64 0, .int .u64 0, .int .u64 0, v]) aE25 (hW_.rd 0 rfl) (cel_obj b2 0) rfl (lq rfl))) hS365 ?_
            refine yck [] 7 (flat_c (w := w363) h v) hS365 (fun w368 m369 => ?_)
            have hM370 : Mem [] w0 w368 [⟨25, 8, (obj b2), 1, [.int .i64 (h.op), sS (h.field), sS (h.text), .int .i64 0, .int .i64 0, .int .u64 0, .int .u64 0, v]⟩, ⟨25, 8, (obj b), 1, [.int .i64 (h.op), sS (h.field), sS (h.text), .int .i64 (h.edits), .int .i64 (h.exact), .int .u64 (h.lo), .int .u64 (h.hi), v]⟩] := Mem.join (R := []) hM364 m369
            have hS371 := hM370.sub (sK (sK sR))
            refine ⟨hS371, ?_⟩
            refine yck [] 9 (flat_c (w := w368) (Hd.mk (h.op) (h.field) (h.text) 0 0 0 0) v) hS371 (fun w372 m373 => ?_)
            have hM374 : Mem [] w0 w372 [⟨25, 8, (obj b2), 1, [.int .i64 (h.op), sS (h.field), sS (h.text), .int .i64 0, .int .i64 0, .int .u64 0, .int .u64 0, v]⟩, ⟨25, 8, (obj b), 1, [.int .i64 (h.op), sS (h.field), sS (h.text), .int .i64 (h.edits), .int .i64 (h.exact), .int .u64 (h.lo), .int .u64 (h.hi), v]⟩] := Mem.join (R := []) hM370 m373
            have hS375 := hM374.sub (sK (sK sR))
            refine ⟨hS375, ?_⟩
            refine yp [] 10 (.bool (nothP h true false false)) (fun W_ hW_ => (show Tryz.prog.eqGuardType Tryz.prog.depth 68 = false ∧ (binOp .eql 68 (.agg #[.int .i64 (h.op), sS (h.field), sS (h.text), .int .i64 (h.edits), .int .i64 (h.exact), .int .u64 (h.lo), .int .u64 (h.hi)]) (.agg #[.int .i64 (h.op), sS (h.field), sS (h.text), .int .i64 0, .int .i64 0, .int .u64 0, .int .u64 0])).run Tryz.prog W_ = .ok (.bool (nothP h true false false)) W_ from f_ageq eT68 (xs := [.int .i64 (h.op), sS (h.field), sS (h.text), .int .i64 (h.edits), .int .i64 (h.exact), .int .u64 (h.lo), .int .u64 (h.hi)]) (ys := [.int .i64 (h.op), sS (h.field), sS (h.text), .int .i64 0, .int .i64 0, .int .u64 0, .int .u64 0]) (r := ((h.op == h.op) && (((sb (h.field)).toList == (sb (h.field)).toList) && (((sb (h.text)).toList == (sb (h.text)).toList) && ((h.edits == 0) && ((h.exact == 0) && ((h.lo == 0) && ((h.hi == 0) && true)))))))) (by kernel_rfl) (noth_t h))) hS375 ?_
            refine ydp [11,12] hS375 ?_
            have hM376 := hM374.sub (sD (sD sR))
            refine xr0 0 (v := .bool (nothP h true false false)) Tryz.func28 ?_
            rw [hR]
            have hall : rightL q.l = true := by rw [← tk_all (l := q.l) (i := i) (by omega)]; exact hRt
            have hro := right_of hall
            rw [← he] at hro
            exact ⟨ret_bool (by rw [hro, node_word (by omega) (by have z := h321; simpa using z) (of_decide_eq_true (by have z := h327; simpa [wordsP] using z)) (by omega), if_neg (by omega)]), hM376.sub sN⟩
           ·
            have h367p : ¬ ((((List.length L) : Nat) : Int) = 0) := p_ne h367
            refine ye [3,4] 5 ((((List.length L) : Nat) : Int) == 0) false h367 hS365 ?_
            refine ydp [6,7,8,9,10,11,12] hS365 ?_
            have hM377 := hM364.sub (sD (sD sR))
            refine xr0 0 (v := .bool false) Tryz.func28 ?_
            rw [hR]
            have hall : rightL q.l = true := by rw [← tk_all (l := q.l) (i := i) (by omega)]; exact hRt
            have hro := right_of hall
            rw [← he] at hro
            exact ⟨ret_bool (by rw [hro, node_many (by omega) (by omega)]), hM377.sub sN⟩
       ·
        refine xc 5 (h.op = 6) (fun h329p => ?_) (fun h329p => ?_)
        ·
         refine xh 1 [11] hM9 (sD (sK sR)) (fun w330 hM331 hS332 => ?_)
         refine yl [0] 1 hS332 pE9 0 rfl (cel_obj b 1) rfl ?_
         refine yl [2] 3 hS332 pE22 0 rfl (cel_obj b 5) rfl ?_
         refine yl [4] 5 hS332 pE22 0 rfl (cel_obj b 6) rfl ?_
         refine yst [6] 7 (c_store (E := 9) (u := sS (h.field)) (by kernel_rfl) hM331 0 rfl (cel_obj b2 1) (by decide) rfl rfl) hS332 (fun _ h_ => h_.sub (sD (sK sR))) (fun w334 hM336 hS338 => ?_)
         refine yst [8] 9 (c_store (E := 22) (u := .int .u64 (h.lo)) (by kernel_rfl) hM336 0 rfl (cel_obj b2 5) (by decide) rfl rfl) hS338 (fun _ h_ => h_.sub (sD (sK sR))) (fun w339 hM341 hS343 => ?_)
         refine ysw [10] 11 (c_store (E := 22) (u := .int .u64 (h.hi)) (by kernel_rfl) hM341 0 rfl (cel_obj b2 6) (by decide) rfl rfl) hS343 (fun w344 hM346 => ?_)
         refine yd ?_
         refine xv 3 (c_load pE9 (hM346.rd 1 rfl) (cel_obj b 1) rfl) ?_
         refine xka 0 (name_c (h.field) (by rw [he]; omega) w344) ?_
         refine xb 2 (!(nameP (h.field))) (fun h349 => ?_) (fun h349 => ?_)
         ·
          have hM350 := hM346.sub (sD (sD sR))
          refine xr0 4 (v := .bool false) Tryz.func28 ?_
          rw [hR]
          have hall : rightL q.l = true := by rw [← tk_all (l := q.l) (i := i) (by omega)]; exact hRt
          have hro := right_of hall
          rw [← he] at hro
          exact ⟨ret_bool (by rw [hro, node_name (by omega) (by have z := h349; simpa using z)]), hM350.sub sN⟩
         ·
          refine xh 3 [] hM346 (sK (sK sR)) (fun w378 hM379 hS380 => ?_)
          refine yl [0] 1 hS380 pE23 1 rfl (cel_obj b 7) rfl ?_
          refine yv [] 2 (fun W_ hW_ => (show (Builtin.len_ #[23] 3 #[v]).run Tryz.prog W_ = .ok (iN (List.length L)) W_ from f_slen sT23 (hr.kept0 hW_.kept) 3 _)) hS380 ?_
          rcases Bool.eq_false_or_eq_true ((((List.length L) : Nat) : Int) == 0) with h382 | h382
          ·
           have h382p : (((List.length L) : Nat) : Int) = 0 := eq_of_beq h382
           refine ye [3,4] 5 ((((List.length L) : Nat) : Int) == 0) true h382 hS380 ?_
           refine yv [] 6 (fun W_ hW_ => (show (Instr.loadAt 25 (pq b)).run Tryz.prog W_ = .ok (.agg #[.int .i64 (h.op), sS (h.field), sS (h.text), .int .i64 (h.edits), .int .i64 (h.exact), .int .u64 (h.lo), .int .u64 (h.hi), v]) W_ from c_loads (ys := [.int .i64 (h.op), sS (h.field), sS (h.text), .int .i64 (h.edits), .int .i64 (h.exact), .int .u64 (h.lo), .int .u64 (h.hi), v]) aE25 (hW_.rd 1 rfl) (cel_obj b 0) rfl (lq rfl))) hS380 ?_
           refine yv [] 8 (fun W_ hW_ => (show (Instr.loadAt 25 (pq b2)).run Tryz.prog W_ = .ok (.agg #[.int .i64 (h.op), sS (h.field), sS ([]), .int .i64 0, .int .i64 0, .int .u64 (h.lo), .int .u64 (h.hi), v]) W_ from c_loads (ys := [.int .i64 (h.op), sS (h.field), sS ([]), .int .i64 0, .int .i64 0, .int .u64 (h.lo), .int .u64 (h.hi), v]) aE25 (hW_.rd 0 rfl) (cel_obj b2 0) rfl (lq rfl))) hS380 ?_
           refine yck [] 7 (flat_c (w := w378) h v) hS380 (fun w383 m384 => ?_)
           have hM385 : Mem [] w0 w383 [⟨25, 8, (obj b2), 1, [.int .i64 (h.op), sS (h.field), sS ([]), .int .i64 0, .int .i64 0, .int .u64 (h.lo), .int .u64 (h.hi), v]⟩, ⟨25, 8, (obj b), 1, [.int .i64 (h.op), sS (h.field), sS (h.text), .int .i64 (h.edits), .int .i64 (h.exact), .int .u64 (h.lo), .int .u64 (h.hi), v]⟩] := Mem.join (R := []) hM379 m384
           have hS386 := hM385.sub (sK (sK sR))
           refine ⟨hS386, ?_⟩
           refine yck [] 9 (flat_c (w := w383) (Hd.mk (h.op) (h.field) ([]) 0 0 (h.lo) (h.hi)) v) hS386 (fun w387 m388 => ?_)
           have hM389 : Mem [] w0 w387 [⟨25, 8, (obj b2), 1, [.int .i64 (h.op), sS (h.field), sS ([]), .int .i64 0, .int .i64 0, .int .u64 (h.lo), .int .u64 (h.hi), v]⟩, ⟨25, 8, (obj b), 1, [.int .i64 (h.op), sS (h.field), sS (h.text), .int .i64 (h.edits), .int .i64 (h.exact), .int .u64 (h.lo), .int .u64 (h.hi), v]⟩] := Mem.join (R := []) hM385 m388
           have hS390 := hM389.sub (sK (sK sR))
           refine ⟨hS390, ?_⟩
           refine yp [] 10 (.bool (nothP h false false true)) (fun W_ hW_ => (show Tryz.prog.eqGuardType Tryz.prog.depth 68 = false ∧ (binOp .eql 68 (.agg #[.int .i64 (h.op), sS (h.field), sS (h.text), .int .i64 (h.edits), .int .i64 (h.exact), .int .u64 (h.lo), .int .u64 (h.hi)]) (.agg #[.int .i64 (h.op), sS (h.field), sS ([]), .int .i64 0, .int .i64 0, .int .u64 (h.lo), .int .u64 (h.hi)])).run Tryz.prog W_ = .ok (.bool (nothP h false false true)) W_ from f_ageq eT68 (xs := [.int .i64 (h.op), sS (h.field), sS (h.text), .int .i64 (h.edits), .int .i64 (h.exact), .int .u64 (h.lo), .int .u64 (h.hi)]) (ys := [.int .i64 (h.op), sS (h.field), sS ([]), .int .i64 0, .int .i64 0, .int .u64 (h.lo), .int .u64 (h.hi)]) (r := ((h.op == h.op) && (((sb (h.field)).toList == (sb (h.field)).toList) && (((sb (h.text)).toList == (sb ([])).toList) && ((h.edits == 0) && ((h.exact == 0) && ((h.lo == h.lo) && ((h.hi == h.hi) && true)))))))) (by kernel_rfl) (noth_r h))) hS390 ?_
           refine ydp [11,12] hS390 ?_
           have hM391 := hM389.sub (sD (sD sR))
           refine xr0 0 (v := .bool (nothP h false false true)) Tryz.func28 ?_
           rw [hR]
           have hall : rightL q.l = true := by rw [← tk_all (l := q.l) (i := i) (by omega)]; exact hRt
           have hro := right_of hall
           rw [← he] at hro
           exact ⟨ret_bool (by rw [hro, node_range (by omega) (by have z := h349; simpa using z) (by omega)]), hM391.sub sN⟩
          ·
           have h382p : ¬ ((((List.length L) : Nat) : Int) = 0) := p_ne h382
           refine ye [3,4] 5 ((((List.length L) : Nat) : Int) == 0) false h382 hS380 ?_
           refine ydp [6,7,8,9,10,11,12] hS380 ?_
           have hM392 := hM379.sub (sD (sD sR))
           refine xr0 0 (v := .bool false) Tryz.func28 ?_
           rw [hR]
           have hall : rightL q.l = true := by rw [← tk_all (l := q.l) (i := i) (by omega)]; exact hRt
           have hro := right_of hall
           rw [← he] at hro
           exact ⟨ret_bool (by rw [hro, node_many (by omega) (by omega)]), hM392.sub sN⟩
        ·
         refine xc 6 (h.op = 7) (fun h351p => ?_) (fun h351p => ?_)
         ·
          have h351 : (h.op == 7) = true := by simpa using h351p
          refine xc 1 (h.op = 7) (fun h352p => ?_) (fun h352p => ?_)
          ·
           refine xv 2 (c_load pE23 (hM9.rd 1 rfl) (cel_obj b 7) rfl) ?_
           refine xv 0 (f_slen sT23 (hr.kept0 hM9.kept) 3 w7) ?_
           refine xv 0 (show (Builtin.max_ #[3, 3] 3 #[.int .i64 2, iN (List.length L)]).run Tryz.prog w7 = .ok (iN (max 2 (List.length L))) w7 from f_max (by split <;> omega)) ?_
           refine xh 4 [] hM9 (sK (sK sR)) (fun w393 hM394 hS395 => ?_)
           refine yl [0] 1 hS395 pE23 1 rfl (cel_obj b 7) rfl ?_
           refine yv [] 2 (fun W_ hW_ => (show (Builtin.len_ #[23] 3 #[v]).run Tryz.prog W_ = .ok (iN (List.length L)) W_ from f_slen sT23 (hr.kept0 hW_.kept) 3 _)) hS395 ?_
           rcases Bool.eq_false_or_eq_true ((((List.length L) : Nat) : Int) == (((max 2 (List.length L)) : Nat) : Int)) with h397 | h397
           ·
            have h397p : (((List.length L) : Nat) : Int) = (((max 2 (List.length L)) : Nat) : Int) := eq_of_beq h397
            refine ye [3,4] 5 ((((List.length L) : Nat) : Int) == (((max 2 (List.length L)) : Nat) : Int)) true h397 hS395 ?_
            refine yv [] 6 (fun W_ hW_ => (show (Instr.loadAt 25 (pq b)).run Tryz.prog W_ = .ok (.agg #[.int .i64 (h.op), sS (h.field), sS (h.text), .int .i64 (h.edits), .int .i64 (h.exact), .int .u64 (h.lo), .int .u64 (h.hi), v]) W_ from c_loads (ys := [.int .i64 (h.op), sS (h.field), sS (h.text), .int .i64 (h.edits), .int .i64 (h.exact), .int .u64 (h.lo), .int .u64 (h.hi), v]) aE25 (hW_.rd 1 rfl) (cel_obj b 0) rfl (lq rfl))) hS395 ?_
            refine yv [] 8 (fun W_ hW_ => (show (Instr.loadAt 25 (pq b2)).run Tryz.prog W_ = .ok (.agg #[.int .i64 (h.op), sS ([]), sS ([]), .int .i64 0, .int .i64 0, .int .u64 0, .int .u64 0, v]) W_ from c_loads (ys := [.int .i64 (h.op), sS ([]), sS ([]), .int .i64 0, .int .i64 0, .int .u64 0, .int .u64 0, v]) aE25 (hW_.rd 0 rfl) (cel_obj b2 0) rfl (lq rfl))) hS395 ?_
            refine yck [] 7 (flat_c (w := w393) h v) hS395 (fun w398 m399 => ?_)
            have hM400 : Mem [] w0 w398 [⟨25, 8, (obj b2), 1, [.int .i64 (h.op), sS ([]), sS ([]), .int .i64 0, .int .i64 0, .int .u64 0, .int .u64 0, v]⟩, ⟨25, 8, (obj b), 1, [.int .i64 (h.op), sS (h.field), sS (h.text), .int .i64 (h.edits), .int .i64 (h.exact), .int .u64 (h.lo), .int .u64 (h.hi), v]⟩] := Mem.join (R := []) hM394 m399
            have hS401 := hM400.sub (sK (sK sR))
            refine ⟨hS401, ?_⟩
            refine yck [] 9 (flat_c (w := w398) (Hd.mk (h.op) ([]) ([]) 0 0 0 0) v) hS401 (fun w402 m403 => ?_)
            have hM404 : Mem [] w0 w402 [⟨25, 8, (obj b2), 1, [.int .i64 (h.op), sS ([]), sS ([]), .int .i64 0, .int .i64 0, .int .u64 0, .int .u64 0, v]⟩, ⟨25, 8, (obj b), 1, [.int .i64 (h.op), sS (h.field), sS (h.text), .int .i64 (h.edits), .int .i64 (h.exact), .int .u64 (h.lo), .int .u64 (h.hi), v]⟩] := Mem.join (R := []) hM400 m403
            have hS405 := hM404.sub (sK (sK sR))
            refine ⟨hS405, ?_⟩
            refine yp [] 10 (.bool (decide (h.field = []) && nothP h false false false)) (fun W_ hW_ => (show Tryz.prog.eqGuardType Tryz.prog.depth 68 = false ∧ (binOp .eql 68 (.agg #[.int .i64 (h.op), sS (h.field), sS (h.text), .int .i64 (h.edits), .int .i64 (h.exact), .int .u64 (h.lo), .int .u64 (h.hi)]) (.agg #[.int .i64 (h.op), sS ([]), sS ([]), .int .i64 0, .int .i64 0, .int .u64 0, .int .u64 0])).run Tryz.prog W_ = .ok (.bool (decide (h.field = []) && nothP h false false false)) W_ from f_ageq eT68 (xs := [.int .i64 (h.op), sS (h.field), sS (h.text), .int .i64 (h.edits), .int .i64 (h.exact), .int .u64 (h.lo), .int .u64 (h.hi)]) (ys := [.int .i64 (h.op), sS ([]), sS ([]), .int .i64 0, .int .i64 0, .int .u64 0, .int .u64 0]) (r := ((h.op == h.op) && (((sb (h.field)).toList == (sb ([])).toList) && (((sb (h.text)).toList == (sb ([])).toList) && ((h.edits == 0) && ((h.exact == 0) && ((h.lo == 0) && ((h.hi == 0) && true)))))))) (by kernel_rfl) (noth_b h))) hS405 ?_
            refine ydp [11,12] hS405 ?_
            have hM406 := hM404.sub (sD (sD sR))
            refine xr0 0 (v := .bool (decide (h.field = []) && nothP h false false false)) Tryz.func28 ?_
            rw [hR]
            have hall : rightL q.l = true := by rw [← tk_all (l := q.l) (i := i) (by omega)]; exact hRt
            have hro := right_of hall
            rw [← he] at hro
            have hmx : L.length = max 2 L.length := Int.ofNat.inj h397p
            exact ⟨ret_bool (by first | (rw [hro, node_join (by omega), (show decide (2 ≤ q.l.length) = true from decide_eq_true (by omega))]; rfl) | (rw [hro, node_not (by omega), (show decide (q.l.length = 1) = true from decide_eq_true (by omega))]; rfl) | (rw [hro, node_all (by omega), (show decide (q.l.length = 0) = true from decide_eq_true (by omega))]; rfl)), hM406.sub sN⟩
           ·
            have h397p : ¬ ((((List.length L) : Nat) : Int) = (((max 2 (List.length L)) : Nat) : Int)) := p_ne h397
            refine ye [3,4] 5 ((((List.length L) : Nat) : Int) == (((max 2 (List.length L)) : Nat) : Int)) false h397 hS395 ?_
            refine ydp [6,7,8,9,10,11,12] hS395 ?_
            have hM407 := hM394.sub (sD (sD sR))
            refine xr0 0 (v := .bool false) Tryz.func28 ?_
            rw [hR]
            have hall : rightL q.l = true := by rw [← tk_all (l := q.l) (i := i) (by omega)]; exact hRt
            have hro := right_of hall
            rw [← he] at hro
            have hmx : ¬ L.length = max 2 L.length := fun z => h397p (congrArg Int.ofNat z)
            exact ⟨ret_bool (by first | (rw [hro, node_join (by omega), (show decide (2 ≤ q.l.length) = false from decide_eq_false (by omega))]; rfl) | (rw [hro, node_not (by omega), (show decide (q.l.length = 1) = false from decide_eq_false (by omega))]; rfl) | (rw [hro, node_all (by omega), (show decide (q.l.length = 0) = false from decide_eq_false (by omega))]; rfl)), hM407.sub sN⟩
          ·
           have h352 : (h.op == 7) = false := by simpa using h352p
           rw [h351] at h352; cases h352
         ·
          refine xc 4 (h.op = 8) (fun h356p => ?_) (fun h356p => ?_)
          ·
           refine xv 2 (c_load pE23 (hM9.rd 1 rfl) (cel_obj b 7) rfl) ?_
           refine xv 0 (f_slen sT23 (hr.kept0 hM9.kept) 3 w7) ?_
           refine xv 0 (show (Builtin.max_ #[3, 3] 3 #[.int .i64 2, iN (List.length L)]).run Tryz.prog w7 = .ok (iN (max 2 (List.length L))) w7 from f_max (by split <;> omega)) ?_
           refine xh 4 [] hM9 (sK (sK sR)) (fun w408 hM409 hS410 => ?_)
           refine yl [0] 1 hS410 pE23 1 rfl (cel_obj b 7) rfl ?_
           refine yv [] 2 (fun W_ hW_ => (show (Builtin.len_ #[23] 3 #[v]).run Tryz.prog W_ = .ok (iN (List.length L)) W_ from f_slen sT23 (hr.kept0 hW_.kept) 3 _)) hS410 ?_
           rcases Bool.eq_false_or_eq_true ((((List.length L) : Nat) : Int) == (((max 2 (List.length L)) : Nat) : Int)) with h412 | h412
           ·
            have h412p : (((List.length L) : Nat) : Int) = (((max 2 (List.length L)) : Nat) : Int) := eq_of_beq h412
            refine ye [3,4] 5 ((((List.length L) : Nat) : Int) == (((max 2 (List.length L)) : Nat) : Int)) true h412 hS410 ?_
            refine yv [] 6 (fun W_ hW_ => (show (Instr.loadAt 25 (pq b)).run Tryz.prog W_ = .ok (.agg #[.int .i64 (h.op), sS (h.field), sS (h.text), .int .i64 (h.edits), .int .i64 (h.exact), .int .u64 (h.lo), .int .u64 (h.hi), v]) W_ from c_loads (ys := [.int .i64 (h.op), sS (h.field), sS (h.text), .int .i64 (h.edits), .int .i64 (h.exact), .int .u64 (h.lo), .int .u64 (h.hi), v]) aE25 (hW_.rd 1 rfl) (cel_obj b 0) rfl (lq rfl))) hS410 ?_
            refine yv [] 8 (fun W_ hW_ => (show (Instr.loadAt 25 (pq b2)).run Tryz.prog W_ = .ok (.agg #[.int .i64 (h.op), sS ([]), sS ([]), .int .i64 0, .int .i64 0, .int .u64 0, .int .u64 0, v]) W_ from c_loads (ys := [.int .i64 (h.op), sS ([]), sS ([]), .int .i64 0, .int .i64 0, .int .u64 0, .int .u64 0, v]) aE25 (hW_.rd 0 rfl) (cel_obj b2 0) rfl (lq rfl))) hS410 ?_
            refine yck [] 7 (flat_c (w := w408) h v) hS410 (fun w413 m414 => ?_)
            have hM415 : Mem [] w0 w413 [⟨25, 8, (obj b2), 1, [.int .i64 (h.op), sS ([]), sS ([]), .int .i64 0, .int .i64 0, .int .u64 0, .int .u64 0, v]⟩, ⟨25, 8, (obj b), 1, [.int .i64 (h.op), sS (h.field), sS (h.text), .int .i64 (h.edits), .int .i64 (h.exact), .int .u64 (h.lo), .int .u64 (h.hi), v]⟩] := Mem.join (R := []) hM409 m414
            have hS416 := hM415.sub (sK (sK sR))
            refine ⟨hS416, ?_⟩
            refine yck [] 9 (flat_c (w := w413) (Hd.mk (h.op) ([]) ([]) 0 0 0 0) v) hS416 (fun w417 m418 => ?_)
            have hM419 : Mem [] w0 w417 [⟨25, 8, (obj b2), 1, [.int .i64 (h.op), sS ([]), sS ([]), .int .i64 0, .int .i64 0, .int .u64 0, .int .u64 0, v]⟩, ⟨25, 8, (obj b), 1, [.int .i64 (h.op), sS (h.field), sS (h.text), .int .i64 (h.edits), .int .i64 (h.exact), .int .u64 (h.lo), .int .u64 (h.hi), v]⟩] := Mem.join (R := []) hM415 m418
            have hS420 := hM419.sub (sK (sK sR))
            refine ⟨hS420, ?_⟩
            refine yp [] 10 (.bool (decide (h.field = []) && nothP h false false false)) (fun W_ hW_ => (show Tryz.prog.eqGuardType Tryz.prog.depth 68 = false ∧ (binOp .eql 68 (.agg #[.int .i64 (h.op), sS (h.field), sS (h.text), .int .i64 (h.edits), .int .i64 (h.exact), .int .u64 (h.lo), .int .u64 (h.hi)]) (.agg #[.int .i64 (h.op), sS ([]), sS ([]), .int .i64 0, .int .i64 0, .int .u64 0, .int .u64 0])).run Tryz.prog W_ = .ok (.bool (decide (h.field = []) && nothP h false false false)) W_ from f_ageq eT68 (xs := [.int .i64 (h.op), sS (h.field), sS (h.text), .int .i64 (h.edits), .int .i64 (h.exact), .int .u64 (h.lo), .int .u64 (h.hi)]) (ys := [.int .i64 (h.op), sS ([]), sS ([]), .int .i64 0, .int .i64 0, .int .u64 0, .int .u64 0]) (r := ((h.op == h.op) && (((sb (h.field)).toList == (sb ([])).toList) && (((sb (h.text)).toList == (sb ([])).toList) && ((h.edits == 0) && ((h.exact == 0) && ((h.lo == 0) && ((h.hi == 0) && true)))))))) (by kernel_rfl) (noth_b h))) hS420 ?_
            refine ydp [11,12] hS420 ?_
            have hM421 := hM419.sub (sD (sD sR))
            refine xr0 0 (v := .bool (decide (h.field = []) && nothP h false false false)) Tryz.func28 ?_
            rw [hR]
            have hall : rightL q.l = true := by rw [← tk_all (l := q.l) (i := i) (by omega)]; exact hRt
            have hro := right_of hall
            rw [← he] at hro
            have hmx : L.length = max 2 L.length := Int.ofNat.inj h412p
            exact ⟨ret_bool (by first | (rw [hro, node_join (by omega), (show decide (2 ≤ q.l.length) = true from decide_eq_true (by omega))]; rfl) | (rw [hro, node_not (by omega), (show decide (q.l.length = 1) = true from decide_eq_true (by omega))]; rfl) | (rw [hro, node_all (by omega), (show decide (q.l.length = 0) = true from decide_eq_true (by omega))]; rfl)), hM421.sub sN⟩
           ·
            have h412p : ¬ ((((List.length L) : Nat) : Int) = (((max 2 (List.length L)) : Nat) : Int)) := p_ne h412
            refine ye [3,4] 5 ((((List.length L) : Nat) : Int) == (((max 2 (List.length L)) : Nat) : Int)) false h412 hS410 ?_
            refine ydp [6,7,8,9,10,11,12] hS410 ?_
            have hM422 := hM409.sub (sD (sD sR))
            refine xr0 0 (v := .bool false) Tryz.func28 ?_
            rw [hR]
            have hall : rightL q.l = true := by rw [← tk_all (l := q.l) (i := i) (by omega)]; exact hRt
            have hro := right_of hall
            rw [← he] at hro
            have hmx : ¬ L.length = max 2 L.length := fun z => h412p (congrArg Int.ofNat z)
            exact ⟨ret_bool (by first | (rw [hro, node_join (by omega), (show decide (2 ≤ q.l.length) = false from decide_eq_false (by omega))]; rfl) | (rw [hro, node_not (by omega), (show decide (q.l.length = 1) = false from decide_eq_false (by omega))]; rfl) | (rw [hro, node_all (by omega), (show decide (q.l.length = 0) = false from decide_eq_false (by omega))]; rfl)), hM422.sub sN⟩
          ·
           refine xc 5 (h.op = 9) (fun h360p => ?_) (fun h360p => ?_)
           ·
            refine xh 5 [] hM9 (sK (sK sR)) (fun w423 hM424 hS425 => ?_)
            refine yl [0] 1 hS425 pE23 1 rfl (cel_obj b 7) rfl ?_
            refine yv [] 2 (fun W_ hW_ => (show (Builtin.len_ #[23] 3 #[v]).run Tryz.prog W_ = .ok (iN (List.length L)) W_ from f_slen sT23 (hr.kept0 hW_.kept) 3 _)) hS425 ?_
            rcases Bool.eq_false_or_eq_true ((((List.length L) : Nat) : Int) == 1) with h427 | h427
            ·
             have h427p : (((List.length L) : Nat) : Int) = 1 := eq_of_beq h427
             refine ye [3,4] 5 ((((List.length L) : Nat) : Int) == 1) true h427 hS425 ?_
             refine yv [] 6 (fun W_ hW_ => (show (Instr.loadAt 25 (pq b)).run Tryz.prog W_ = .ok (.agg #[.int .i64 (h.op), sS (h.field), sS (h.text), .int .i64 (h.edits), .int .i64 (h.exact), .int .u64 (h.lo), .int .u64 (h.hi), v]) W_ from c_loads (ys := [.int .i64 (h.op), sS (h.field), sS (h.text), .int .i64 (h.edits), .int .i64 (h.exact), .int .u64 (h.lo), .int .u64 (h.hi), v]) aE25 (hW_.rd 1 rfl) (cel_obj b 0) rfl (lq rfl))) hS425 ?_
             refine yv [] 8 (fun W_ hW_ => (show (Instr.loadAt 25 (pq b2)).run Tryz.prog W_ = .ok (.agg #[.int .i64 (h.op), sS ([]), sS ([]), .int .i64 0, .int .i64 0, .int .u64 0, .int .u64 0, v]) W_ from c_loads (ys := [.int .i64 (h.op), sS ([]), sS ([]), .int .i64 0, .int .i64 0, .int .u64 0, .int .u64 0, v]) aE25 (hW_.rd 0 rfl) (cel_obj b2 0) rfl (lq rfl))) hS425 ?_
             refine yck [] 7 (flat_c (w := w423) h v) hS425 (fun w428 m429 => ?_)
             have hM430 : Mem [] w0 w428 [⟨25, 8, (obj b2), 1, [.int .i64 (h.op), sS ([]), sS ([]), .int .i64 0, .int .i64 0, .int .u64 0, .int .u64 0, v]⟩, ⟨25, 8, (obj b), 1, [.int .i64 (h.op), sS (h.field), sS (h.text), .int .i64 (h.edits), .int .i64 (h.exact), .int .u64 (h.lo), .int .u64 (h.hi), v]⟩] := Mem.join (R := []) hM424 m429
             have hS431 := hM430.sub (sK (sK sR))
             refine ⟨hS431, ?_⟩
             refine yck [] 9 (flat_c (w := w428) (Hd.mk (h.op) ([]) ([]) 0 0 0 0) v) hS431 (fun w432 m433 => ?_)
             have hM434 : Mem [] w0 w432 [⟨25, 8, (obj b2), 1, [.int .i64 (h.op), sS ([]), sS ([]), .int .i64 0, .int .i64 0, .int .u64 0, .int .u64 0, v]⟩, ⟨25, 8, (obj b), 1, [.int .i64 (h.op), sS (h.field), sS (h.text), .int .i64 (h.edits), .int .i64 (h.exact), .int .u64 (h.lo), .int .u64 (h.hi), v]⟩] := Mem.join (R := []) hM430 m433
             have hS435 := hM434.sub (sK (sK sR))
             refine ⟨hS435, ?_⟩
             refine yp [] 10 (.bool (decide (h.field = []) && nothP h false false false)) (fun W_ hW_ => (show Tryz.prog.eqGuardType Tryz.prog.depth 68 = false ∧ (binOp .eql 68 (.agg #[.int .i64 (h.op), sS (h.field), sS (h.text), .int .i64 (h.edits), .int .i64 (h.exact), .int .u64 (h.lo), .int .u64 (h.hi)]) (.agg #[.int .i64 (h.op), sS ([]), sS ([]), .int .i64 0, .int .i64 0, .int .u64 0, .int .u64 0])).run Tryz.prog W_ = .ok (.bool (decide (h.field = []) && nothP h false false false)) W_ from f_ageq eT68 (xs := [.int .i64 (h.op), sS (h.field), sS (h.text), .int .i64 (h.edits), .int .i64 (h.exact), .int .u64 (h.lo), .int .u64 (h.hi)]) (ys := [.int .i64 (h.op), sS ([]), sS ([]), .int .i64 0, .int .i64 0, .int .u64 0, .int .u64 0]) (r := ((h.op == h.op) && (((sb (h.field)).toList == (sb ([])).toList) && (((sb (h.text)).toList == (sb ([])).toList) && ((h.edits == 0) && ((h.exact == 0) && ((h.lo == 0) && ((h.hi == 0) && true)))))))) (by kernel_rfl) (noth_b h))) hS435 ?_
             refine ydp [11,12] hS435 ?_
             have hM436 := hM434.sub (sD (sD sR))
             refine xr0 0 (v := .bool (decide (h.field = []) && nothP h false false false)) Tryz.func28 ?_
             rw [hR]
             have hall : rightL q.l = true := by rw [← tk_all (l := q.l) (i := i) (by omega)]; exact hRt
             have hro := right_of hall
             rw [← he] at hro
             exact ⟨ret_bool (by first | (rw [hro, node_join (by omega), (show decide (2 ≤ q.l.length) = true from decide_eq_true (by omega))]; rfl) | (rw [hro, node_not (by omega), (show decide (q.l.length = 1) = true from decide_eq_true (by omega))]; rfl) | (rw [hro, node_all (by omega), (show decide (q.l.length = 0) = true from decide_eq_true (by omega))]; rfl)), hM436.sub sN⟩
            ·
             have h427p : ¬ ((((List.length L) : Nat) : Int) = 1) := p_ne h427
             refine ye [3,4] 5 ((((List.length L) : Nat) : Int) == 1) false h427 hS425 ?_
             refine ydp [6,7,8,9,10,11,12] hS425 ?_
             have hM437 := hM424.sub (sD (sD sR))
             refine xr0 0 (v := .bool false) Tryz.func28 ?_
             rw [hR]
             have hall : rightL q.l = true := by rw [← tk_all (l := q.l) (i := i) (by omega)]; exact hRt
             have hro := right_of hall
             rw [← he] at hro
             exact ⟨ret_bool (by first | (rw [hro, node_join (by omega), (show decide (2 ≤ q.l.length) = false from decide_eq_false (by omega))]; rfl) | (rw [hro, node_not (by omega), (show decide (q.l.length = 1) = false from decide_eq_false (by omega))]; rfl) | (rw [hro, node_all (by omega), (show decide (q.l.length = 0) = false from decide_eq_false (by omega))]; rfl)), hM437.sub sN⟩
           ·
            refine xc 5 (h.op = 10) (fun h361p => ?_) (fun h361p => ?_)
            ·
             refine xh 3 [] hM9 (sK (sK sR)) (fun w438 hM439 hS440 => ?_)
             refine yl [0] 1 hS440 pE23 1 rfl (cel_obj b 7) rfl ?_
             refine yv [] 2 (fun W_ hW_ => (show (Builtin.len_ #[23] 3 #[v]).run Tryz.prog W_ = .ok (iN (List.length L)) W_ from f_slen sT23 (hr.kept0 hW_.kept) 3 _)) hS440 ?_
             rcases Bool.eq_false_or_eq_true ((((List.length L) : Nat) : Int) == 0) with h442 | h442
             ·
              have h442p : (((List.length L) : Nat) : Int) = 0 := eq_of_beq h442
              refine ye [3,4] 5 ((((List.length L) : Nat) : Int) == 0) true h442 hS440 ?_
              refine yv [] 6 (fun W_ hW_ => (show (Instr.loadAt 25 (pq b)).run Tryz.prog W_ = .ok (.agg #[.int .i64 (h.op), sS (h.field), sS (h.text), .int .i64 (h.edits), .int .i64 (h.exact), .int .u64 (h.lo), .int .u64 (h.hi), v]) W_ from c_loads (ys := [.int .i64 (h.op), sS (h.field), sS (h.text), .int .i64 (h.edits), .int .i64 (h.exact), .int .u64 (h.lo), .int .u64 (h.hi), v]) aE25 (hW_.rd 1 rfl) (cel_obj b 0) rfl (lq rfl))) hS440 ?_
              refine yv [] 8 (fun W_ hW_ => (show (Instr.loadAt 25 (pq b2)).run Tryz.prog W_ = .ok (.agg #[.int .i64 (h.op), sS ([]), sS ([]), .int .i64 0, .int .i64 0, .int .u64 0, .int .u64 0, v]) W_ from c_loads (ys := [.int .i64 (h.op), sS ([]), sS ([]), .int .i64 0, .int .i64 0, .int .u64 0, .int .u64 0, v]) aE25 (hW_.rd 0 rfl) (cel_obj b2 0) rfl (lq rfl))) hS440 ?_
              refine yck [] 7 (flat_c (w := w438) h v) hS440 (fun w443 m444 => ?_)
              have hM445 : Mem [] w0 w443 [⟨25, 8, (obj b2), 1, [.int .i64 (h.op), sS ([]), sS ([]), .int .i64 0, .int .i64 0, .int .u64 0, .int .u64 0, v]⟩, ⟨25, 8, (obj b), 1, [.int .i64 (h.op), sS (h.field), sS (h.text), .int .i64 (h.edits), .int .i64 (h.exact), .int .u64 (h.lo), .int .u64 (h.hi), v]⟩] := Mem.join (R := []) hM439 m444
              have hS446 := hM445.sub (sK (sK sR))
              refine ⟨hS446, ?_⟩
              refine yck [] 9 (flat_c (w := w443) (Hd.mk (h.op) ([]) ([]) 0 0 0 0) v) hS446 (fun w447 m448 => ?_)
              have hM449 : Mem [] w0 w447 [⟨25, 8, (obj b2), 1, [.int .i64 (h.op), sS ([]), sS ([]), .int .i64 0, .int .i64 0, .int .u64 0, .int .u64 0, v]⟩, ⟨25, 8, (obj b), 1, [.int .i64 (h.op), sS (h.field), sS (h.text), .int .i64 (h.edits), .int .i64 (h.exact), .int .u64 (h.lo), .int .u64 (h.hi), v]⟩] := Mem.join (R := []) hM445 m448
              have hS450 := hM449.sub (sK (sK sR))
              refine ⟨hS450, ?_⟩
              refine yp [] 10 (.bool (decide (h.field = []) && nothP h false false false)) (fun W_ hW_ => (show Tryz.prog.eqGuardType Tryz.prog.depth 68 = false ∧ (binOp .eql 68 (.agg #[.int .i64 (h.op), sS (h.field), sS (h.text), .int .i64 (h.edits), .int .i64 (h.exact), .int .u64 (h.lo), .int .u64 (h.hi)]) (.agg #[.int .i64 (h.op), sS ([]), sS ([]), .int .i64 0, .int .i64 0, .int .u64 0, .int .u64 0])).run Tryz.prog W_ = .ok (.bool (decide (h.field = []) && nothP h false false false)) W_ from f_ageq eT68 (xs := [.int .i64 (h.op), sS (h.field), sS (h.text), .int .i64 (h.edits), .int .i64 (h.exact), .int .u64 (h.lo), .int .u64 (h.hi)]) (ys := [.int .i64 (h.op), sS ([]), sS ([]), .int .i64 0, .int .i64 0, .int .u64 0, .int .u64 0]) (r := ((h.op == h.op) && (((sb (h.field)).toList == (sb ([])).toList) && (((sb (h.text)).toList == (sb ([])).toList) && ((h.edits == 0) && ((h.exact == 0) && ((h.lo == 0) && ((h.hi == 0) && true)))))))) (by kernel_rfl) (noth_b h))) hS450 ?_
              refine ydp [11,12] hS450 ?_
              have hM451 := hM449.sub (sD (sD sR))
              refine xr0 0 (v := .bool (decide (h.field = []) && nothP h false false false)) Tryz.func28 ?_
              rw [hR]
              have hall : rightL q.l = true := by rw [← tk_all (l := q.l) (i := i) (by omega)]; exact hRt
              have hro := right_of hall
              rw [← he] at hro
              exact ⟨ret_bool (by first | (rw [hro, node_join (by omega), (show decide (2 ≤ q.l.length) = true from decide_eq_true (by omega))]; rfl) | (rw [hro, node_not (by omega), (show decide (q.l.length = 1) = true from decide_eq_true (by omega))]; rfl) | (rw [hro, node_all (by omega), (show decide (q.l.length = 0) = true from decide_eq_true (by omega))]; rfl)), hM451.sub sN⟩
             ·
              have h442p : ¬ ((((List.length L) : Nat) : Int) = 0) := p_ne h442
              refine ye [3,4] 5 ((((List.length L) : Nat) : Int) == 0) false h442 hS440 ?_
              refine ydp [6,7,8,9,10,11,12] hS440 ?_
              have hM452 := hM439.sub (sD (sD sR))
              refine xr0 0 (v := .bool false) Tryz.func28 ?_
              rw [hR]
              have hall : rightL q.l = true := by rw [← tk_all (l := q.l) (i := i) (by omega)]; exact hRt
              have hro := right_of hall
              rw [← he] at hro
              exact ⟨ret_bool (by first | (rw [hro, node_join (by omega), (show decide (2 ≤ q.l.length) = false from decide_eq_false (by omega))]; rfl) | (rw [hro, node_not (by omega), (show decide (q.l.length = 1) = false from decide_eq_false (by omega))]; rfl) | (rw [hro, node_all (by omega), (show decide (q.l.length = 0) = false from decide_eq_false (by omega))]; rfl)), hM452.sub sN⟩
            ·
             have hM362 := hM9.sub (sD (sD sR))
             refine xr0 4 (v := .bool false) Tryz.func28 ?_
             rw [hR]
             have hall : rightL q.l = true := by rw [← tk_all (l := q.l) (i := i) (by omega)]; exact hRt
             have hro := right_of hall
             rw [← he] at hro
             exact ⟨ret_bool (by rw [hro, node_else (by omega)]), hM362.sub sN⟩

set_option maxHeartbeats 400000 in
theorem right_s (N : Nat) (ih : ∀ (q : Q), bulkQ q < N → ∀ {w : World} (h : Hd) (he : h = q.h) (v : Value) (hq : RdQ w q v) (hb : bulkQ q ≤ 1048576) , Calls Tryz.prog 28 #[.agg #[.int .i64 (h.op), sS (h.field), sS (h.text), .int .i64 (h.edits), .int .i64 (h.exact), .int .u64 (h.lo), .int .u64 (h.hi), v]] w (fun e w' => e = .returned (.bool (rightQ q)) ∧ Mem [] w w' [])) {w : World} (q : Q) (h : Hd) (he : h = q.h) (v : Value) (hq : RdQ w q v) (hb : bulkQ q ≤ 1048576) (hN : bulkQ q = N) :
  Calls Tryz.prog 28 #[.agg #[.int .i64 (h.op), sS (h.field), sS (h.text), .int .i64 (h.edits), .int .i64 (h.exact), .int .u64 (h.lo), .int .u64 (h.hi), v]] w (fun e w' => e = .returned (.bool (rightQ q)) ∧ Mem [] w w' []) := by
 obtain ⟨L, hr, hl, hh, hs⟩ := hq.inv
 have hbl : bulkL q.l + q.h.field.length + q.h.text.length + 1 = bulkQ q := by cases q; rw [bulkQ_mk]; rfl
 have hln := bulk_len q.l
 refine xe 93 Tryz.func28 (fun R hR => ?_)
 have hM0 := Mem.start w
 refine xx 2 (m_box (T := 25) (k := 8) (u := .agg #[.int .i64 (h.op), sS (h.field), sS (h.text), .int .i64 (h.edits), .int .i64 (h.exact), .int .u64 (h.lo), .int .u64 (h.hi), v]) rfl rfl hM0) (fun b1 w2 hM4 => ?_)
 refine xv 6 (c_load pE23 (hM4.rd 0 rfl) (cel_obj b1 7) rfl) ?_
 refine xv 0 (f_slen sT23 (hr.kept0 hM4.kept) 3 w2) ?_
 exact xl 4 (right_L N ih q h he v hq hb L hr hl hh hs b1 hN R hR (L.length + 1) 0 w2 (Nat.zero_le _) (by rw [List.take_zero, rightL]) (hM4.sub (sK sN)) (by omega))

theorem right_c_n : ∀ (N : Nat), ∀ (q : Q), bulkQ q ≤ N → ∀ {w : World} (h : Hd) (he : h = q.h) (v : Value) (hq : RdQ w q v) (hb : bulkQ q ≤ 1048576) , Calls Tryz.prog 28 #[.agg #[.int .i64 (h.op), sS (h.field), sS (h.text), .int .i64 (h.edits), .int .i64 (h.exact), .int .u64 (h.lo), .int .u64 (h.hi), v]] w (fun e w' => e = .returned (.bool (rightQ q)) ∧ Mem [] w w' []) := by
 intro N
 induction N with
 | zero => intro q hn; have := bulk_pos q; omega
 | succ N ihn => intro q hn w h he v hq hb; exact right_s (bulkQ q) (fun c hc => ihn c (by omega)) q h he v hq hb rfl

theorem right_c {w : World} (q : Q) (h : Hd) (he : h = q.h) (v : Value) (hq : RdQ w q v) (hb : bulkQ q ≤ 1048576)  :
  Calls Tryz.prog 28 #[.agg #[.int .i64 (h.op), sS (h.field), sS (h.text), .int .i64 (h.edits), .int .i64 (h.exact), .int .u64 (h.lo), .int .u64 (h.hi), v]] w (fun e w' => e = .returned (.bool (rightQ q)) ∧ Mem [] w w' []) := right_c_n (bulkQ q) q (Nat.le_refl _) h he v hq hb


end Go.Proofs.YthpodbngljfdmaaGreatDoor


namespace Go.Proofs.YthpodbngljfdmaaGreatDoor
open Go Go.Gw Go.UtfP Go.TokP Go.QryP Go.RowKit
set_option linter.unusedVariables false
set_option linter.unusedSimpArgs false
set_option maxRecDepth 20000


set_option maxHeartbeats 400000 in
theorem letters_c (s m : List UInt8) (hs : s.length ≤ 1048576) (hm : m.length ≤ 1048576) (w : World) :
  Calls Tryz.prog 74 #[sS s, sS m] w (fun e w' => e = .returned (iN (letN s m)) ∧ Mem [] w w' []) := by
 refine xe 17 Tryz.func74 (fun R hR => ?_)
 have hM0 := Mem.start w
 refine xkv 8 (rlet_c s m (by omega) (by omega) w) (fun v4 w1 m2 => ?_)
 have hM3 := Mem.join hM0 m2
 refine xcn 12 ((letP s m) = 0) (fun h5p => ?_) (fun h5p => ?_)
 ·
  have hM6 := hM3.sub (sD sR)
  exact xr 4 (v := .int .i64 0) Tryz.func74 hR ⟨ret_int (by rw [letN_no (by omega)]; rfl), hM6.sub sN⟩
 ·
  refine xv 4 (f_slen sT70 (hM3.rd 0 rfl) 3 w1) ?_
  have hM8 := hM3.sub (sD sR)
  exact xr 2 (v := iN (List.length (letL s m))) Tryz.func74 hR ⟨ret_int (by rw [(let_pos (by omega)).2.1, ← (let_pos (by omega)).2.2]), hM8.sub sN⟩

set_option maxHeartbeats 1000000 in
theorem noth_c {w : World} (h : Hd) (v : Value) (t d n : Bool) :
  Calls Tryz.prog 71 #[.agg #[.int .i64 (h.op), sS (h.field), sS (h.text), .int .i64 (h.edits), .int .i64 (h.exact), .int .u64 (h.lo), .int .u64 (h.hi), v], .bool t, .bool d, .bool n] w (fun e w' => e = .returned (.bool (nothP h t d n)) ∧ Mem [] w w' []) := by
 refine xe 41 Tryz.func71 (fun R hR => ?_)
 have hM0 := Mem.start w
 refine xx 2 (m_box (T := 25) (k := 8) (u := .agg #[.int .i64 (h.op), sS (h.field), sS (h.text), .int .i64 (h.edits), .int .i64 (h.exact), .int .u64 (h.lo), .int .u64 (h.hi), v]) rfl rfl hM0) (fun b1 w2 hM4 => ?_)
 refine xf 6 10 t (fun h7 => ?_) (fun h7 => ?_)
 ·
  refine xf 7 17 d (fun h8 => ?_) (fun h8 => ?_)
  ·
   refine xf 13 30 n (fun h9 => ?_) (fun h9 => ?_)
   ·
    have hM10 := hM4.sub (sD sR)
    exact xr 12 (v := .bool true) Tryz.func71 hR ⟨ret_bool (by unfold nothP; first | (simp [h7, h8, h9, h7p, h8p, h9p]; done) | (simp_all; done) | (simp_all; rw [Bool.eq_iff_iff]; simp; done)), hM10.sub sN⟩
   ·
    refine xv 1 (c_load pE22 (hM4.rd 0 rfl) (cel_obj b1 5) rfl) ?_
    refine xfc 2 34 (h.lo = 0) (fun h12p => ?_) (fun h12p => ?_)
    ·
     have h12 : (h.lo == 0) = true := by simpa using h12p
     refine xv 1 (c_load pE22 (hM4.rd 0 rfl) (cel_obj b1 6) rfl) ?_
     have hM14 := hM4.sub (sD sR)
     exact xr 6 (v := .bool (h.hi == 0)) Tryz.func71 hR ⟨ret_bool (by unfold nothP; first | (simp [h7, h8, h9, h12, h7p, h8p, h9p, h12p]; done) | (simp_all; done) | (simp_all; rw [Bool.eq_iff_iff]; simp; done)), hM14.sub sN⟩
    ·
     have h12 : (h.lo == 0) = false := by simpa using h12p
     have hM15 := hM4.sub (sD sR)
     exact xr 8 (v := .bool false) Tryz.func71 hR ⟨ret_bool (by unfold nothP; first | (simp [h7, h8, h9, h12, h7p, h8p, h9p, h12p]; done) | (simp_all; done) | (simp_all; rw [Bool.eq_iff_iff]; simp; done)), hM15.sub sN⟩
  ·
   refine xv 1 (c_load pE3 (hM4.rd 0 rfl) (cel_obj b1 3) rfl) ?_
   refine xfc 2 21 (h.edits = 0) (fun h17p => ?_) (fun h17p => ?_)
   ·
    have h17 : (h.edits == 0) = true := by simpa using h17p
    refine xv 1 (c_load pE3 (hM4.rd 0 rfl) (cel_obj b1 4) rfl) ?_
    refine xfc 5 28 (h.exact = 0) (fun h19p => ?_) (fun h19p => ?_)
    ·
     have h19 : (h.exact == 0) = true := by simpa using h19p
     refine xf 2 30 n (fun h20 => ?_) (fun h20 => ?_)
     ·
      have hM21 := hM4.sub (sD sR)
      exact xr 12 (v := .bool true) Tryz.func71 hR ⟨ret_bool (by unfold nothP; first | (simp [h7, h8, h17, h19, h20, h7p, h8p, h17p, h19p, h20p]; done) | (simp_all; done) | (simp_all; rw [Bool.eq_iff_iff]; simp; done)), hM21.sub sN⟩
     ·
      refine xv 1 (c_load pE22 (hM4.rd 0 rfl) (cel_obj b1 5) rfl) ?_
      refine xfc 2 34 (h.lo = 0) (fun h23p => ?_) (fun h23p => ?_)
      ·
       have h23 : (h.lo == 0) = true := by simpa using h23p
       refine xv 1 (c_load pE22 (hM4.rd 0 rfl) (cel_obj b1 6) rfl) ?_
       have hM25 := hM4.sub (sD sR)
       exact xr 6 (v := .bool (h.hi == 0)) Tryz.func71 hR ⟨ret_bool (by unfold nothP; first | (simp [h7, h8, h17, h19, h20, h23, h7p, h8p, h17p, h19p, h20p, h23p]; done) | (simp_all; done) | (simp_all; rw [Bool.eq_iff_iff]; simp; done)), hM25.sub sN⟩
      ·
       have h23 : (h.lo == 0) = false := by simpa using h23p
       have hM26 := hM4.sub (sD sR)
       exact xr 8 (v := .bool false) Tryz.func71 hR ⟨ret_bool (by unfold nothP; first | (simp [h7, h8, h17, h19, h20, h23, h7p, h8p, h17p, h19p, h20p, h23p]; done) | (simp_all; done) | (simp_all; rw [Bool.eq_iff_iff]; simp; done)), hM26.sub sN⟩
    ·
     have h19 : (h.exact == 0) = false := by simpa using h19p
     have hM27 := hM4.sub (sD sR)
     exact xr 14 (v := .bool false) Tryz.func71 hR ⟨ret_bool (by unfold nothP; first | (simp [h7, h8, h17, h19, h7p, h8p, h17p, h19p]; done) | (simp_all; done) | (simp_all; rw [Bool.eq_iff_iff]; simp; done)), hM27.sub sN⟩
   ·
    have h17 : (h.edits == 0) = false := by simpa using h17p
    have hM28 := hM4.sub (sD sR)
    exact xr 21 (v := .bool false) Tryz.func71 hR ⟨ret_bool (by unfold nothP; first | (simp [h7, h8, h17, h7p, h8p, h17p]; done) | (simp_all; done) | (simp_all; rw [Bool.eq_iff_iff]; simp; done)), hM28.sub sN⟩
 ·
  refine xv 1 (c_load pE9 (hM4.rd 0 rfl) (cel_obj b1 2) rfl) ?_
  refine xq 0 (h.text) ([]) ?_
  refine xfc 2 15 (h.text = []) (fun h31p => ?_) (fun h31p => ?_)
  ·
   have h31 : (decide (h.text = [])) = true := decide_eq_true h31p
   refine xf 2 17 d (fun h32 => ?_) (fun h32 => ?_)
   ·
    refine xf 13 30 n (fun h33 => ?_) (fun h33 => ?_)
    ·
     have hM34 := hM4.sub (sD sR)
     exact xr 12 (v := .bool true) Tryz.func71 hR ⟨ret_bool (by unfold nothP; first | (simp [h7, h31, h32, h33, h7p, h31p, h32p, h33p]; done) | (simp_all; done) | (simp_all; rw [Bool.eq_iff_iff]; simp; done)), hM34.sub sN⟩
    ·
     refine xv 1 (c_load pE22 (hM4.rd 0 rfl) (cel_obj b1 5) rfl) ?_
     refine xfc 2 34 (h.lo = 0) (fun h36p => ?_) (fun h36p => ?_)
     ·
      have h36 : (h.lo == 0) = true := by simpa using h36p
      refine xv 1 (c_load pE22 (hM4.rd 0 rfl) (cel_obj b1 6) rfl) ?_
      have hM38 := hM4.sub (sD sR)
      exact xr 6 (v := .bool (h.hi == 0)) Tryz.func71 hR ⟨ret_bool (by unfold nothP; first | (simp [h7, h31, h32, h33, h36, h7p, h31p, h32p, h33p, h36p]; done) | (simp_all; done) | (simp_all; rw [Bool.eq_iff_iff]; simp; done)), hM38.sub sN⟩
     ·
      have h36 : (h.lo == 0) = false := by simpa using h36p
      have hM39 := hM4.sub (sD sR)
      exact xr 8 (v := .bool false) Tryz.func71 hR ⟨ret_bool (by unfold nothP; first | (simp [h7, h31, h32, h33, h36, h7p, h31p, h32p, h33p, h36p]; done) | (simp_all; done) | (simp_all; rw [Bool.eq_iff_iff]; simp; done)), hM39.sub sN⟩
   ·
    refine xv 1 (c_load pE3 (hM4.rd 0 rfl) (cel_obj b1 3) rfl) ?_
    refine xfc 2 21 (h.edits = 0) (fun h41p => ?_) (fun h41p => ?_)
    ·
     have h41 : (h.edits == 0) = true := by simpa using h41p
     refine xv 1 (c_load pE3 (hM4.rd 0 rfl) (cel_obj b1 4) rfl) ?_
     refine xfc 5 28 (h.exact = 0) (fun h43p => ?_) (fun h43p => ?_)
     ·
      have h43 : (h.exact == 0) = true := by simpa using h43p
      refine xf 2 30 n (fun h44 => ?_) (fun h44 => ?_)
      ·
       have hM45 := hM4.sub (sD sR)
       exact xr 12 (v := .bool true) Tryz.func71 hR ⟨ret_bool (by unfold nothP; first | (simp [h7, h31, h32, h41, h43, h44, h7p, h31p, h32p, h41p, h43p, h44p]; done) | (simp_all; done) | (simp_all; rw [Bool.eq_iff_iff]; simp; done)), hM45.sub sN⟩
      ·
       refine xv 1 (c_load pE22 (hM4.rd 0 rfl) (cel_obj b1 5) rfl) ?_
       refine xfc 2 34 (h.lo = 0) (fun h47p => ?_) (fun h47p => ?_)
       ·
        have h47 : (h.lo == 0) = true := by simpa using h47p
        refine xv 1 (c_load pE22 (hM4.rd 0 rfl) (cel_obj b1 6) rfl) ?_
        have hM49 := hM4.sub (sD sR)
        exact xr 6 (v := .bool (h.hi == 0)) Tryz.func71 hR ⟨ret_bool (by unfold nothP; first | (simp [h7, h31, h32, h41, h43, h44, h47, h7p, h31p, h32p, h41p, h43p, h44p, h47p]; done) | (simp_all; done) | (simp_all; rw [Bool.eq_iff_iff]; simp; done)), hM49.sub sN⟩
       ·
        have h47 : (h.lo == 0) = false := by simpa using h47p
        have hM50 := hM4.sub (sD sR)
        exact xr 8 (v := .bool false) Tryz.func71 hR ⟨ret_bool (by unfold nothP; first | (simp [h7, h31, h32, h41, h43, h44, h47, h7p, h31p, h32p, h41p, h43p, h44p, h47p]; done) | (simp_all; done) | (simp_all; rw [Bool.eq_iff_iff]; simp; done)), hM50.sub sN⟩
     ·
      have h43 : (h.exact == 0) = false := by simpa using h43p
      have hM51 := hM4.sub (sD sR)
      exact xr 14 (v := .bool false) Tryz.func71 hR ⟨ret_bool (by unfold nothP; first | (simp [h7, h31, h32, h41, h43, h7p, h31p, h32p, h41p, h43p]; done) | (simp_all; done) | (simp_all; rw [Bool.eq_iff_iff]; simp; done)), hM51.sub sN⟩
    ·
     have h41 : (h.edits == 0) = false := by simpa using h41p
     have hM52 := hM4.sub (sD sR)
     exact xr 21 (v := .bool false) Tryz.func71 hR ⟨ret_bool (by unfold nothP; first | (simp [h7, h31, h32, h41, h7p, h31p, h32p, h41p]; done) | (simp_all; done) | (simp_all; rw [Bool.eq_iff_iff]; simp; done)), hM52.sub sN⟩
  ·
   have h31 : (decide (h.text = [])) = false := decide_eq_false h31p
   have hM53 := hM4.sub (sD sR)
   exact xr 27 (v := .bool false) Tryz.func71 hR ⟨ret_bool (by unfold nothP; first | (simp [h7, h31, h7p, h31p]; done) | (simp_all; done) | (simp_all; rw [Bool.eq_iff_iff]; simp; done)), hM53.sub sN⟩


end Go.Proofs.YthpodbngljfdmaaGreatDoor


namespace Go.Proofs.YthpodbngljfdmaaGreatDoor
open Go Go.Gw Go.UtfP Go.TokP Go.QryP Go.RowKit
set_option linter.unusedVariables false
set_option linter.unusedSimpArgs false
set_option maxRecDepth 20000


set_option maxHeartbeats 4000000 in
theorem rone_c {w : World} (q : Q) (h : Hd) (he : h = q.h) (v : Value) (hq : RdQ w q v) (hb : bulkQ q ≤ 1048576) :
  Calls Tryz.prog 54 #[.agg #[.int .i64 (h.op), sS (h.field), sS (h.text), .int .i64 (h.edits), .int .i64 (h.exact), .int .u64 (h.lo), .int .u64 (h.hi), v]] w (fun e w' => e = .returned (.bool (nodeP h q.l.length)) ∧ Mem [] w w' []) := by
 obtain ⟨L, hr, hl, hh, hs⟩ := hq.inv
 have hbl : bulkL q.l + q.h.field.length + q.h.text.length + 1 = bulkQ q := by cases q; rw [bulkQ_mk]; rfl
 have hln := bulk_len q.l
 refine xe 163 Tryz.func54 (fun R hR => ?_)
 have hM0 := Mem.start w
 refine xx 2 (m_box (T := 25) (k := 8) (u := .agg #[.int .i64 (h.op), sS (h.field), sS (h.text), .int .i64 (h.edits), .int .i64 (h.exact), .int .u64 (h.lo), .int .u64 (h.hi), v]) rfl rfl hM0) (fun b1 w2 hM4 => ?_)
 refine xv 5 (c_load pE23 (hM4.rd 0 rfl) (cel_obj b1 7) rfl) ?_
 refine xv 0 (f_slen sT23 (hr.kept0 hM4.kept) 3 w2) ?_
 refine xv 6 (c_load pE3 (hM4.rd 0 rfl) (cel_obj b1 0) rfl) ?_
 refine xfc 2 15 (h.op = 8) (fun h10p => ?_) (fun h10p => ?_)
 ·
  refine xfc 11 22 ((((List.length L) : Nat) : Int) ≥ 2) (fun h12p => ?_) (fun h12p => ?_)
  ·
   refine xv 1 (c_load pE9 (hM4.rd 0 rfl) (cel_obj b1 1) rfl) ?_
   refine xq 0 (h.field) ([]) ?_
   refine xfc 2 27 (h.field = []) (fun h15p => ?_) (fun h15p => ?_)
   ·
    refine xv 0 (c_loads (ys := [.int .i64 (h.op), sS (h.field), sS (h.text), .int .i64 (h.edits), .int .i64 (h.exact), .int .u64 (h.lo), .int .u64 (h.hi), v]) aE25 (hM4.rd 0 rfl) (cel_obj b1 0) rfl (lq rfl)) ?_
    have hM17 := hM4.sub (sD sR)
    refine xk 0 (noth_c (w := w2) h v false false false) (fun w18 m19 => ?_)
    have hM20 : Mem [] w w18 [] := Mem.join (R := []) hM17 m19
    exact xr 3 (v := .bool (nothP h false false false)) Tryz.func54 hR ⟨ret_bool (by rw [node_join (by omega), (show decide (2 ≤ q.l.length) = true from decide_eq_true (by omega)), (show decide (h.field = []) = true from decide_eq_true h15p)]; rfl), hM20.sub sN⟩
   ·
    have hM21 := hM4.sub (sD sR)
    exact xr 5 (v := .bool false) Tryz.func54 hR ⟨ret_bool (by rw [node_join (by omega), (show decide (h.field = []) = false from decide_eq_false h15p), Bool.and_false]; rfl), hM21.sub sN⟩
  ·
   have hM22 := hM4.sub (sD sR)
   exact xr 10 (v := .bool false) Tryz.func54 hR ⟨ret_bool (by rw [node_join (by omega), (show decide (2 ≤ q.l.length) = false from decide_eq_false (by omega))]; rfl), hM22.sub sN⟩
 ·
  refine xv 1 (c_load pE3 (hM4.rd 0 rfl) (cel_obj b1 0) rfl) ?_
  refine xc 3 (h.op = 7) (fun h23p => ?_) (fun h23p => ?_)
  ·
   refine xfc 5 22 ((((List.length L) : Nat) : Int) ≥ 2) (fun h24p => ?_) (fun h24p => ?_)
   ·
    refine xv 1 (c_load pE9 (hM4.rd 0 rfl) (cel_obj b1 1) rfl) ?_
    refine xq 0 (h.field) ([]) ?_
    refine xfc 2 27 (h.field = []) (fun h27p => ?_) (fun h27p => ?_)
    ·
     refine xv 0 (c_loads (ys := [.int .i64 (h.op), sS (h.field), sS (h.text), .int .i64 (h.edits), .int .i64 (h.exact), .int .u64 (h.lo), .int .u64 (h.hi), v]) aE25 (hM4.rd 0 rfl) (cel_obj b1 0) rfl (lq rfl)) ?_
     have hM29 := hM4.sub (sD sR)
     refine xk 0 (noth_c (w := w2) h v false false false) (fun w30 m31 => ?_)
     have hM32 : Mem [] w w30 [] := Mem.join (R := []) hM29 m31
     exact xr 3 (v := .bool (nothP h false false false)) Tryz.func54 hR ⟨ret_bool (by rw [node_join (by omega), (show decide (2 ≤ q.l.length) = true from decide_eq_true (by omega)), (show decide (h.field = []) = true from decide_eq_true h27p)]; rfl), hM32.sub sN⟩
    ·
     have hM33 := hM4.sub (sD sR)
     exact xr 5 (v := .bool false) Tryz.func54 hR ⟨ret_bool (by rw [node_join (by omega), (show decide (h.field = []) = false from decide_eq_false h27p), Bool.and_false]; rfl), hM33.sub sN⟩
   ·
    have hM34 := hM4.sub (sD sR)
    exact xr 10 (v := .bool false) Tryz.func54 hR ⟨ret_bool (by rw [node_join (by omega), (show decide (2 ≤ q.l.length) = false from decide_eq_false (by omega))]; rfl), hM34.sub sN⟩
  ·
   refine xv 5 (c_load pE3 (hM4.rd 0 rfl) (cel_obj b1 0) rfl) ?_
   refine xc 2 (h.op = 9) (fun h36p => ?_) (fun h36p => ?_)
   ·
    refine xfc 5 36 ((((List.length L) : Nat) : Int) = 1) (fun h37p => ?_) (fun h37p => ?_)
    ·
     refine xv 1 (c_load pE9 (hM4.rd 0 rfl) (cel_obj b1 1) rfl) ?_
     refine xq 0 (h.field) ([]) ?_
     refine xfc 2 41 (h.field = []) (fun h40p => ?_) (fun h40p => ?_)
     ·
      refine xv 0 (c_loads (ys := [.int .i64 (h.op), sS (h.field), sS (h.text), .int .i64 (h.edits), .int .i64 (h.exact), .int .u64 (h.lo), .int .u64 (h.hi), v]) aE25 (hM4.rd 0 rfl) (cel_obj b1 0) rfl (lq rfl)) ?_
      have hM42 := hM4.sub (sD sR)
      refine xk 0 (noth_c (w := w2) h v false false false) (fun w43 m44 => ?_)
      have hM45 : Mem [] w w43 [] := Mem.join (R := []) hM42 m44
      exact xr 3 (v := .bool (nothP h false false false)) Tryz.func54 hR ⟨ret_bool (by rw [node_not (by omega), (show decide (q.l.length = 1) = true from decide_eq_true (by omega)), (show decide (h.field = []) = true from decide_eq_true h40p)]; rfl), hM45.sub sN⟩
     ·
      have hM46 := hM4.sub (sD sR)
      exact xr 5 (v := .bool false) Tryz.func54 hR ⟨ret_bool (by rw [node_not (by omega), (show decide (h.field = []) = false from decide_eq_false h40p), Bool.and_false]; rfl), hM46.sub sN⟩
    ·
     have hM47 := hM4.sub (sD sR)
     exact xr 10 (v := .bool false) Tryz.func54 hR ⟨ret_bool (by rw [node_not (by omega), (show decide (q.l.length = 1) = false from decide_eq_false (by omega))]; rfl), hM47.sub sN⟩
   ·
    refine xv 5 (c_load pE3 (hM4.rd 0 rfl) (cel_obj b1 0) rfl) ?_
    refine xc 2 (h.op = 10) (fun h49p => ?_) (fun h49p => ?_)
    ·
     refine xfc 5 50 ((((List.length L) : Nat) : Int) = 0) (fun h50p => ?_) (fun h50p => ?_)
     ·
      refine xv 1 (c_load pE9 (hM4.rd 0 rfl) (cel_obj b1 1) rfl) ?_
      refine xq 0 (h.field) ([]) ?_
      refine xfc 2 55 (h.field = []) (fun h53p => ?_) (fun h53p => ?_)
      ·
       refine xv 0 (c_loads (ys := [.int .i64 (h.op), sS (h.field), sS (h.text), .int .i64 (h.edits), .int .i64 (h.exact), .int .u64 (h.lo), .int .u64 (h.hi), v]) aE25 (hM4.rd 0 rfl) (cel_obj b1 0) rfl (lq rfl)) ?_
       have hM55 := hM4.sub (sD sR)
       refine xk 0 (noth_c (w := w2) h v false false false) (fun w56 m57 => ?_)
       have hM58 : Mem [] w w56 [] := Mem.join (R := []) hM55 m57
       exact xr 3 (v := .bool (nothP h false false false)) Tryz.func54 hR ⟨ret_bool (by rw [node_all (by omega), (show decide (q.l.length = 0) = true from decide_eq_true (by omega)), (show decide (h.field = []) = true from decide_eq_true h53p)]; rfl), hM58.sub sN⟩
      ·
       have hM59 := hM4.sub (sD sR)
       exact xr 5 (v := .bool false) Tryz.func54 hR ⟨ret_bool (by rw [node_all (by omega), (show decide (h.field = []) = false from decide_eq_false h53p), Bool.and_false]; rfl), hM59.sub sN⟩
     ·
      have hM60 := hM4.sub (sD sR)
      exact xr 10 (v := .bool false) Tryz.func54 hR ⟨ret_bool (by rw [node_all (by omega), (show decide (q.l.length = 0) = false from decide_eq_false (by omega))]; rfl), hM60.sub sN⟩
    ·
     refine xfc 7 61 ((((List.length L) : Nat) : Int) > 0) (fun h61p => ?_) (fun h61p => ?_)
     ·
      have hM63 := hM4.sub (sD sR)
      exact xr 11 (v := .bool false) Tryz.func54 hR ⟨ret_bool (node_out (by omega) (.inl (by omega))).symm, hM63.sub sN⟩
     ·
      refine xv 1 (c_load pE9 (hM4.rd 0 rfl) (cel_obj b1 1) rfl) ?_
      refine xka 0 (rname_c (h.field) (by rw [he]; omega) w2) ?_
      refine xb 3 (!(nameP (h.field))) (fun h64 => ?_) (fun h64 => ?_)
      ·
       have hM65 := hM4.sub (sD sR)
       exact xr 4 (v := .bool false) Tryz.func54 hR ⟨ret_bool (node_out (by omega) (.inr (by have z := h64; simpa using z))).symm, hM65.sub sN⟩
      ·
       refine xv 5 (c_load pE3 (hM4.rd 0 rfl) (cel_obj b1 0) rfl) ?_
       refine xc 7 (h.op = 1) (fun h67p => ?_) (fun h67p => ?_)
       ·
        refine xv 3 (c_load pE9 (hM4.rd 0 rfl) (cel_obj b1 2) rfl) ?_
        refine xk 0 (rterm_c (h.text) w2) (fun w69 m70 => ?_)
        have hM71 := Mem.join hM4 m70
        refine xfc 11 79 ((termE (h.text)) = 0) (fun h72p => ?_) (fun h72p => ?_)
        ·
         refine xv 0 (c_loads (ys := [.int .i64 (h.op), sS (h.field), sS (h.text), .int .i64 (h.edits), .int .i64 (h.exact), .int .u64 (h.lo), .int .u64 (h.hi), v]) aE25 (hM71.rd 0 rfl) (cel_obj b1 0) rfl (lq rfl)) ?_
         have hM74 := hM71.sub (sD sR)
         refine xk 0 (noth_c (w := w69) h v true false false) (fun w75 m76 => ?_)
         have hM77 : Mem [] w w75 [] := Mem.join (R := []) hM74 m76
         exact xr 3 (v := .bool (nothP h true false false)) Tryz.func54 hR ⟨ret_bool (by rw [node_1 (by omega) (by omega) (by have z := h64; simpa using z), (show decide (termE h.text = 0) = true from decide_eq_true (by omega))]; rfl), hM77.sub sN⟩
        ·
         have hM78 := hM71.sub (sD sR)
         exact xr 5 (v := .bool false) Tryz.func54 hR ⟨ret_bool (by rw [node_1 (by omega) (by omega) (by have z := h64; simpa using z), (show decide (termE h.text = 0) = false from decide_eq_false (by omega))]; rfl), hM78.sub sN⟩
       ·
        refine xc 5 (h.op = 2) (fun h79p => ?_) (fun h79p => ?_)
        ·
         refine xv 3 (c_load pE9 (hM4.rd 0 rfl) (cel_obj b1 2) rfl) ?_
         refine xk 0 (letters_c (h.text) ([]) (by rw [he]; omega) (by decide) w2) (fun w81 m82 => ?_)
         have hM83 : Mem [] w w81 [⟨25, 8, (obj b1), 1, [.int .i64 (h.op), sS (h.field), sS (h.text), .int .i64 (h.edits), .int .i64 (h.exact), .int .u64 (h.lo), .int .u64 (h.hi), v]⟩] := Mem.join (R := []) hM4 m82
         refine xfc 2 89 ((((letN (h.text) ([])) : Nat) : Int) > 0) (fun h84p => ?_) (fun h84p => ?_)
         ·
          refine xv 0 (c_loads (ys := [.int .i64 (h.op), sS (h.field), sS (h.text), .int .i64 (h.edits), .int .i64 (h.exact), .int .u64 (h.lo), .int .u64 (h.hi), v]) aE25 (hM83.rd 0 rfl) (cel_obj b1 0) rfl (lq rfl)) ?_
          have hM86 := hM83.sub (sD sR)
          refine xk 0 (noth_c (w := w81) h v true false false) (fun w87 m88 => ?_)
          have hM89 : Mem [] w w87 [] := Mem.join (R := []) hM86 m88
          exact xr 3 (v := .bool (nothP h true false false)) Tryz.func54 hR ⟨ret_bool (by rw [node_2 (by omega) (by omega) (by have z := h64; simpa using z), (show decide (0 < letN h.text []) = true from decide_eq_true (by omega))]; rfl), hM89.sub sN⟩
         ·
          have hM90 := hM83.sub (sD sR)
          exact xr 5 (v := .bool false) Tryz.func54 hR ⟨ret_bool (by rw [node_2 (by omega) (by omega) (by have z := h64; simpa using z), (show decide (0 < letN h.text []) = false from decide_eq_false (by omega))]; rfl), hM90.sub sN⟩
        ·
         refine xc 5 (h.op = 3) (fun h91p => ?_) (fun h91p => ?_)
         ·
          refine xv 3 (c_load pE9 (hM4.rd 0 rfl) (cel_obj b1 2) rfl) ?_
          refine xk 0 (letters_c (h.text) ([42, 63] : List UInt8) (by rw [he]; omega) (by decide) w2) (fun w93 m94 => ?_)
          have hM95 : Mem [] w w93 [⟨25, 8, (obj b1), 1, [.int .i64 (h.op), sS (h.field), sS (h.text), .int .i64 (h.edits), .int .i64 (h.exact), .int .u64 (h.lo), .int .u64 (h.hi), v]⟩] := Mem.join (R := []) hM4 m94
          refine xfc 2 99 ((((letN (h.text) ([42, 63] : List UInt8)) : Nat) : Int) > 0) (fun h96p => ?_) (fun h96p => ?_)
          ·
           refine xv 0 (c_loads (ys := [.int .i64 (h.op), sS (h.field), sS (h.text), .int .i64 (h.edits), .int .i64 (h.exact), .int .u64 (h.lo), .int .u64 (h.hi), v]) aE25 (hM95.rd 0 rfl) (cel_obj b1 0) rfl (lq rfl)) ?_
           have hM98 := hM95.sub (sD sR)
           refine xk 0 (noth_c (w := w93) h v true false false) (fun w99 m100 => ?_)
           have hM101 : Mem [] w w99 [] := Mem.join (R := []) hM98 m100
           exact xr 3 (v := .bool (nothP h true false false)) Tryz.func54 hR ⟨ret_bool (by rw [node_3 (by omega) (by omega) (by have z := h64; simpa using z), (show decide (0 < letN h.text [42, 63]) = true from decide_eq_true (by omega))]; rfl), hM101.sub sN⟩
          ·
           have hM102 := hM95.sub (sD sR)
           exact xr 5 (v := .bool false) Tryz.func54 hR ⟨ret_bool (by rw [node_3 (by omega) (by omega) (by have z := h64; simpa using z), (show decide (0 < letN h.text [42, 63]) = false from decide_eq_false (by omega))]; rfl), hM102.sub sN⟩
         ·
          refine xc 5 (h.op = 4) (fun h103p => ?_) (fun h103p => ?_)
          ·
           refine xv 3 (c_load pE9 (hM4.rd 0 rfl) (cel_obj b1 2) rfl) ?_
           refine xk 0 (letters_c (h.text) ([]) (by rw [he]; omega) (by decide) w2) (fun w105 m106 => ?_)
           have hM107 : Mem [] w w105 [⟨25, 8, (obj b1), 1, [.int .i64 (h.op), sS (h.field), sS (h.text), .int .i64 (h.edits), .int .i64 (h.exact), .int .u64 (h.lo), .int .u64 (h.hi), v]⟩] := Mem.join (R := []) hM4 m106
           refine xfc 7 110 ((((letN (h.text) ([])) : Nat) : Int) > 0) (fun h108p => ?_) (fun h108p => ?_)
           ·
            refine xv 1 (c_load pE3 (hM107.rd 0 rfl) (cel_obj b1 3) rfl) ?_
            refine xfc 3 115 (h.edits ≥ 0) (fun h110p => ?_) (fun h110p => ?_)
            ·
             refine xv 1 (c_load pE3 (hM107.rd 0 rfl) (cel_obj b1 3) rfl) ?_
             refine xfc 3 120 (h.edits ≤ 2) (fun h112p => ?_) (fun h112p => ?_)
             ·
              refine xv 1 (c_load pE3 (hM107.rd 0 rfl) (cel_obj b1 4) rfl) ?_
              refine xfc 3 125 (h.exact ≥ 0) (fun h114p => ?_) (fun h114p => ?_)
              ·
               refine xv 1 (c_load pE3 (hM107.rd 0 rfl) (cel_obj b1 4) rfl) ?_
               refine xfc 4 131 (h.exact ≤ (((letN (h.text) ([])) : Nat) : Int)) (fun h116p => ?_) (fun h116p => ?_)
               ·
                refine xv 0 (c_loads (ys := [.int .i64 (h.op), sS (h.field), sS (h.text), .int .i64 (h.edits), .int .i64 (h.exact), .int .u64 (h.lo), .int .u64 (h.hi), v]) aE25 (hM107.rd 0 rfl) (cel_obj b1 0) rfl (lq rfl)) ?_
                have hM118 := hM107.sub (sD sR)
                refine xk 0 (noth_c (w := w105) h v true true false) (fun w119 m120 => ?_)
                have hM121 : Mem [] w w119 [] := Mem.join (R := []) hM118 m120
                exact xr 3 (v := .bool (nothP h true true false)) Tryz.func54 hR ⟨ret_bool (by rw [node_4 (by omega) (by omega) (by have z := h64; simpa using z), (show decide (0 < letN h.text [] ∧ 0 ≤ h.edits ∧ h.edits ≤ 2 ∧ 0 ≤ h.exact ∧ h.exact ≤ (letN h.text [] : Int)) = true from decide_eq_true (by omega))]; rfl), hM121.sub sN⟩
               ·
                have hM122 := hM107.sub (sD sR)
                exact xr 5 (v := .bool false) Tryz.func54 hR ⟨ret_bool (by rw [node_4 (by omega) (by omega) (by have z := h64; simpa using z), (show decide (0 < letN h.text [] ∧ 0 ≤ h.edits ∧ h.edits ≤ 2 ∧ 0 ≤ h.exact ∧ h.exact ≤ (letN h.text [] : Int)) = false from decide_eq_false (by omega))]; rfl), hM122.sub sN⟩
              ·
               have hM123 := hM107.sub (sD sR)
               exact xr 11 (v := .bool false) Tryz.func54 hR ⟨ret_bool (by rw [node_4 (by omega) (by omega) (by have z := h64; simpa using z), (show decide (0 < letN h.text [] ∧ 0 ≤ h.edits ∧ h.edits ≤ 2 ∧ 0 ≤ h.exact ∧ h.exact ≤ (letN h.text [] : Int)) = false from decide_eq_false (by omega))]; rfl), hM123.sub sN⟩
             ·
              have hM124 := hM107.sub (sD sR)
              exact xr 16 (v := .bool false) Tryz.func54 hR ⟨ret_bool (by rw [node_4 (by omega) (by omega) (by have z := h64; simpa using z), (show decide (0 < letN h.text [] ∧ 0 ≤ h.edits ∧ h.edits ≤ 2 ∧ 0 ≤ h.exact ∧ h.exact ≤ (letN h.text [] : Int)) = false from decide_eq_false (by omega))]; rfl), hM124.sub sN⟩
            ·
             have hM125 := hM107.sub (sD sR)
             exact xr 21 (v := .bool false) Tryz.func54 hR ⟨ret_bool (by rw [node_4 (by omega) (by omega) (by have z := h64; simpa using z), (show decide (0 < letN h.text [] ∧ 0 ≤ h.edits ∧ h.edits ≤ 2 ∧ 0 ≤ h.exact ∧ h.exact ≤ (letN h.text [] : Int)) = false from decide_eq_false (by omega))]; rfl), hM125.sub sN⟩
           ·
            have hM126 := hM107.sub (sD sR)
            exact xr 26 (v := .bool false) Tryz.func54 hR ⟨ret_bool (by rw [node_4 (by omega) (by omega) (by have z := h64; simpa using z), (show decide (0 < letN h.text [] ∧ 0 ≤ h.edits ∧ h.edits ≤ 2 ∧ 0 ≤ h.exact ∧ h.exact ≤ (letN h.text [] : Int)) = false from decide_eq_false (by omega))]; rfl), hM126.sub sN⟩
          ·
           refine xc 5 (h.op = 5) (fun h127p => ?_) (fun h127p => ?_)
           ·
            refine xv 3 (c_load pE9 (hM4.rd 0 rfl) (cel_obj b1 2) rfl) ?_
            refine xkv 0 (rtokens_c (h.text) w2) (fun v132 w129 m130 => ?_)
            have hM131 := Mem.join hM4 m130
            refine xfc 11 145 ((tokE (h.text)) = 0) (fun h133p => ?_) (fun h133p => ?_)
            ·
             refine xv 1 (f_slen sT79 (hM131.rd 0 rfl) 3 w129) ?_
             refine xfc 3 150 ((((List.length (tokL (h.text))) : Nat) : Int) ≥ 1) (fun h135p => ?_) (fun h135p => ?_)
             ·
              refine xv 1 (f_slen sT79 (hM131.rd 0 rfl) 3 w129) ?_
              have hM137 := hM131.sub (sD (sK sR))
              refine xfc 3 155 ((((List.length (tokL (h.text))) : Nat) : Int) ≤ 16) (fun h138p => ?_) (fun h138p => ?_)
              ·
               refine xv 0 (c_loads (ys := [.int .i64 (h.op), sS (h.field), sS (h.text), .int .i64 (h.edits), .int .i64 (h.exact), .int .u64 (h.lo), .int .u64 (h.hi), v]) aE25 (hM137.rd 0 rfl) (cel_obj b1 0) rfl (lq rfl)) ?_
               have hM140 := hM137.sub (sD sR)
               refine xk 0 (noth_c (w := w129) h v true false false) (fun w141 m142 => ?_)
               have hM143 : Mem [] w w141 [] := Mem.join (R := []) hM140 m142
               exact xr 3 (v := .bool (nothP h true false false)) Tryz.func54 hR ⟨ret_bool (by rw [node_5 (by omega) (by omega) (by have z := h64; simpa using z), (show decide (tokE h.text = 0 ∧ 1 ≤ (tokL h.text).length ∧ (tokL h.text).length ≤ 16) = true from decide_eq_true (by omega))]; rfl), hM143.sub sN⟩
              ·
               have hM144 := hM137.sub (sD sR)
               exact xr 5 (v := .bool false) Tryz.func54 hR ⟨ret_bool (by rw [node_5 (by omega) (by omega) (by have z := h64; simpa using z), (show decide (tokE h.text = 0 ∧ 1 ≤ (tokL h.text).length ∧ (tokL h.text).length ≤ 16) = false from decide_eq_false (by omega))]; rfl), hM144.sub sN⟩
             ·
              have hM145 := hM131.sub (sD (sD sR))
              exact xr 10 (v := .bool false) Tryz.func54 hR ⟨ret_bool (by rw [node_5 (by omega) (by omega) (by have z := h64; simpa using z), (show decide (tokE h.text = 0 ∧ 1 ≤ (tokL h.text).length ∧ (tokL h.text).length ≤ 16) = false from decide_eq_false (by omega))]; rfl), hM145.sub sN⟩
            ·
             have hM146 := hM131.sub (sD (sD sR))
             exact xr 15 (v := .bool false) Tryz.func54 hR ⟨ret_bool (by rw [node_5 (by omega) (by omega) (by have z := h64; simpa using z), (show decide (tokE h.text = 0 ∧ 1 ≤ (tokL h.text).length ∧ (tokL h.text).length ≤ 16) = false from decide_eq_false (by omega))]; rfl), hM146.sub sN⟩
           ·
            refine xc 5 (h.op = 6) (fun h147p => ?_) (fun h147p => ?_)
            ·
             refine xv 2 (c_loads (ys := [.int .i64 (h.op), sS (h.field), sS (h.text), .int .i64 (h.edits), .int .i64 (h.exact), .int .u64 (h.lo), .int .u64 (h.hi), v]) aE25 (hM4.rd 0 rfl) (cel_obj b1 0) rfl (lq rfl)) ?_
             have hM149 := hM4.sub (sD sR)
             refine xk 0 (noth_c (w := w2) h v false false true) (fun w150 m151 => ?_)
             have hM152 : Mem [] w w150 [] := Mem.join (R := []) hM149 m151
             exact xr 2 (v := .bool (nothP h false false true)) Tryz.func54 hR ⟨ret_bool (node_range (by omega) (by have z := h64; simpa using z) (by omega)).symm, hM152.sub sN⟩
            ·
             have hM153 := hM4.sub (sD sR)
             exact xr 6 (v := .bool false) Tryz.func54 hR ⟨ret_bool (node_else (by omega)).symm, hM153.sub sN⟩


end Go.Proofs.YthpodbngljfdmaaGreatDoor


namespace Go.Proofs.YthpodbngljfdmaaGreatDoor
open Go Go.Gw Go.UtfP Go.TokP Go.QryP Go.RowKit
set_option linter.unusedVariables false
set_option linter.unusedSimpArgs false
set_option maxRecDepth 20000


set_option maxHeartbeats 1000000 in
theorem rright_L (N : Nat) (ih : ∀ (q : Q), bulkQ q < N → ∀ {w : World} (h : Hd) (he : h = q.h) (v : Value) (hq : RdQ w q v) (hb : bulkQ q ≤ 1048576) , Calls Tryz.prog 36 #[.agg #[.int .i64 (h.op), sS (h.field), sS (h.text), .int .i64 (h.edits), .int .i64 (h.exact), .int .u64 (h.lo), .int .u64 (h.hi), v]] w (fun e w' => e = .returned (.bool (rightQ q)) ∧ Mem [] w w' [])) {w0 : World} (q : Q) (h : Hd) (he : h = q.h) (v : Value) (hq : RdQ w0 q v) (hb : bulkQ q ≤ 1048576) (L : List QN) (hr : Rd w0 8 v L.length (recs qnC L)) (hl : L.length = q.l.length) (hh : ∀ j, j < q.l.length → (L.getD j qz).h = (q.l.getD j q0).h) (hs : ∀ j, j < q.l.length → RdQ w0 (q.l.getD j q0) (L.getD j qz).parts) (b : Nat) (hN : bulkQ q = N) (R : Ending → World → Prop) (hR : R = (fun e w' => e = .returned (.bool (rightQ q)) ∧ Mem [] w0 w' [])) : ∀ (M_ : Nat) (i : Nat) (w : World) (hi : i ≤ L.length) (hRt : rightL (q.l.take i) = true) (hM : Mem [] w0 w [⟨25, 8, (obj b), 1, [.int .i64 (h.op), sS (h.field), sS (h.text), .int .i64 (h.edits), .int .i64 (h.exact), .int .u64 (h.lo), .int .u64 (h.hi), v]⟩]) (hN : L.length - i < M_), GoS Tryz.prog 36 R 20 [iC Tryz.f36 [1,0,1,0,0], iL Tryz.f36 [1,0,1,0,0], .inBlock 0, iC Tryz.f36 [1,1]] [(1, pq b), (3, iN i)] w := by
 intro M_
 induction M_ with
 | zero => intro i w hi hRt hM hN; exact absurd hN (Nat.not_lt_zero _)
 | succ M_ ih_ =>
  intro i w hi hRt hM hN
  have hbl : bulkL q.l + q.h.field.length + q.h.text.length + 1 = bulkQ q := by cases q; rw [bulkQ_mk]; rfl
  have hln := bulk_len q.l
  refine xs ?_
  refine xv 5 (c_load pE23 (hM.rd 0 rfl) (cel_obj b 7) rfl) ?_
  refine xv 0 (f_slen sT23 (hr.kept0 hM.kept) 3 w) ?_
  refine xc 2 (((i : Nat) : Int) < (((List.length L) : Nat) : Int)) (fun h3p => ?_) (fun h3p => ?_)
  ·
   refine xv 6 (c_load pE23 (hM.rd 0 rfl) (cel_obj b 7) rfl) ?_
   refine xat 1 sT23 (hr.kept0 hM.kept) ((i : Nat) : Int) i (fun p9 hp10 => ?_)
   refine xv 0 (r_loads (f := qnC) (l := L) aE25 (hr.kept0 hM.kept) qnC_len hp10 (by first | omega | (dsimp only; omega)) qz) ?_
   have hkb18 := bulk_kid (l := q.l) (i := i) (by omega)
   have hks19 := size_le (List.getD q.l i q0)
   have hbs20 := bulk_step (l := q.l) (i := i) (by omega)
   refine xk 0 (ih (List.getD q.l i q0) (by omega) ((List.getD L i qz).h) (hh i (by omega)) ((List.getD L i qz).parts) ((hs i (by omega)).kept hM.kept) (by omega)) (fun w15 m16 => ?_)
   have hM17 : Mem [] w0 w15 [⟨25, 8, (obj b), 1, [.int .i64 (h.op), sS (h.field), sS (h.text), .int .i64 (h.edits), .int .i64 (h.exact), .int .u64 (h.lo), .int .u64 (h.hi), v]⟩] := Mem.join (R := []) hM m16
   refine xb 2 (!(rightQ (List.getD q.l i q0))) (fun h21 => ?_) (fun h21 => ?_)
   ·
    have hM22 := hM17.sub (sD sR)
    exact xr 4 (v := .bool false) Tryz.func36 hR ⟨ret_bool (right_not (right_bad (show i < q.l.length by omega) (by have z := h21; simpa using z))).symm, hM22.sub sN⟩
   ·
    refine xa 4 ((i : Nat) : Int) 1 (((i + 1) : Nat) : Int) ?_
    exact xl 3 (ih_ (i + 1) _ (by omega) (by rw [right_step (show i < q.l.length by omega), hRt, Bool.true_and]; have z := h21; simpa using z) (hM17.sub (sK sN)) (by omega))
  ·
   refine xv 3 (c_loads (ys := [.int .i64 (h.op), sS (h.field), sS (h.text), .int .i64 (h.edits), .int .i64 (h.exact), .int .u64 (h.lo), .int .u64 (h.hi), v]) aE25 (hM.rd 0 rfl) (cel_obj b 0) rfl (lq rfl)) ?_
   have hM5 := hM.sub (sD sR)
   refine xk 0 (rone_c q h he v (hq.kept hM5.kept) (by omega)) (fun w6 m7 => ?_)
   have hM8 : Mem [] w0 w6 [] := Mem.join (R := []) hM5 m7
   refine xr0 2 (v := .bool (nodeP h q.l.length)) Tryz.func36 ?_
   rw [hR]
   have hall : rightL q.l = true := by rw [← tk_all (l := q.l) (i := i) (by omega)]; exact hRt
   exact ⟨ret_bool (by rw [right_of hall, ← he]), hM8.sub sN⟩

set_option maxHeartbeats 400000 in
theorem rright_s (N : Nat) (ih : ∀ (q : Q), bulkQ q < N → ∀ {w : World} (h : Hd) (he : h = q.h) (v : Value) (hq : RdQ w q v) (hb : bulkQ q ≤ 1048576) , Calls Tryz.prog 36 #[.agg #[.int .i64 (h.op), sS (h.field), sS (h.text), .int .i64 (h.edits), .int .i64 (h.exact), .int .u64 (h.lo), .int .u64 (h.hi), v]] w (fun e w' => e = .returned (.bool (rightQ q)) ∧ Mem [] w w' [])) {w : World} (q : Q) (h : Hd) (he : h = q.h) (v : Value) (hq : RdQ w q v) (hb : bulkQ q ≤ 1048576) (hN : bulkQ q = N) :
  Calls Tryz.prog 36 #[.agg #[.int .i64 (h.op), sS (h.field), sS (h.text), .int .i64 (h.edits), .int .i64 (h.exact), .int .u64 (h.lo), .int .u64 (h.hi), v]] w (fun e w' => e = .returned (.bool (rightQ q)) ∧ Mem [] w w' []) := by
 obtain ⟨L, hr, hl, hh, hs⟩ := hq.inv
 have hbl : bulkL q.l + q.h.field.length + q.h.text.length + 1 = bulkQ q := by cases q; rw [bulkQ_mk]; rfl
 have hln := bulk_len q.l
 refine xe 20 Tryz.func36 (fun R hR => ?_)
 have hM0 := Mem.start w
 refine xx 2 (m_box (T := 25) (k := 8) (u := .agg #[.int .i64 (h.op), sS (h.field), sS (h.text), .int .i64 (h.edits), .int .i64 (h.exact), .int .u64 (h.lo), .int .u64 (h.hi), v]) rfl rfl hM0) (fun b1 w2 hM4 => ?_)
 exact xl 9 (rright_L N ih q h he v hq hb L hr hl hh hs b1 hN R hR (L.length + 1) 0 w2 (Nat.zero_le _) (by rw [List.take_zero, rightL]) (hM4.sub (sK sN)) (by omega))

theorem rright_c_n : ∀ (N : Nat), ∀ (q : Q), bulkQ q ≤ N → ∀ {w : World} (h : Hd) (he : h = q.h) (v : Value) (hq : RdQ w q v) (hb : bulkQ q ≤ 1048576) , Calls Tryz.prog 36 #[.agg #[.int .i64 (h.op), sS (h.field), sS (h.text), .int .i64 (h.edits), .int .i64 (h.exact), .int .u64 (h.lo), .int .u64 (h.hi), v]] w (fun e w' => e = .returned (.bool (rightQ q)) ∧ Mem [] w w' []) := by
 intro N
 induction N with
 | zero => intro q hn; have := bulk_pos q; omega
 | succ N ihn => intro q hn w h he v hq hb; exact rright_s (bulkQ q) (fun c hc => ihn c (by omega)) q h he v hq hb rfl

theorem rright_c {w : World} (q : Q) (h : Hd) (he : h = q.h) (v : Value) (hq : RdQ w q v) (hb : bulkQ q ≤ 1048576)  :
  Calls Tryz.prog 36 #[.agg #[.int .i64 (h.op), sS (h.field), sS (h.text), .int .i64 (h.edits), .int .i64 (h.exact), .int .u64 (h.lo), .int .u64 (h.hi), v]] w (fun e w' => e = .returned (.bool (rightQ q)) ∧ Mem [] w w' []) := rright_c_n (bulkQ q) q (Nat.le_refl _) h he v hq hb


end Go.Proofs.YthpodbngljfdmaaGreatDoor


namespace Go.Proofs.YthpodbngljfdmaaGreatDoor
open Go Go.Gw Go.UtfP Go.TokP Go.QryP Go.RowKit
set_option linter.unusedVariables false
set_option linter.unusedSimpArgs false
set_option maxRecDepth 20000


set_option maxHeartbeats 1000000 in
theorem check_c {w : World} (q : Q) (h : Hd) (he : h = q.h) (v : Value) (hq : RdQ w q v) (hb : bulkQ q ≤ 1048576) :
  Calls Tryz.prog 15 #[.agg #[.int .i64 (h.op), sS (h.field), sS (h.text), .int .i64 (h.edits), .int .i64 (h.exact), .int .u64 (h.lo), .int .u64 (h.hi), v]] w (fun e w' => e = .returned (.int .i64 (checkQ q)) ∧ Mem [] w w' []) := by
 obtain ⟨L, hr, hl, hh, hs⟩ := hq.inv
 have hbl : bulkL q.l + q.h.field.length + q.h.text.length + 1 = bulkQ q := by cases q; rw [bulkQ_mk]; rfl
 have hln := bulk_len q.l
 refine xe 19 Tryz.func15 (fun R hR => ?_)
 have hM0 := Mem.start w
 refine xx 2 (m_box (T := 25) (k := 8) (u := .agg #[.int .i64 (h.op), sS (h.field), sS (h.text), .int .i64 (h.edits), .int .i64 (h.exact), .int .u64 (h.lo), .int .u64 (h.hi), v]) rfl rfl hM0) (fun b1 w2 hM4 => ?_)
 refine xv 5 (c_loads (ys := [.int .i64 (h.op), sS (h.field), sS (h.text), .int .i64 (h.edits), .int .i64 (h.exact), .int .u64 (h.lo), .int .u64 (h.hi), v]) aE25 (hM4.rd 0 rfl) (cel_obj b1 0) rfl (lq rfl)) ?_
 refine xk 0 (size_c q h he v (hq.kept hM4.kept) (by omega)) (fun w8 m9 => ?_)
 have hM10 : Mem [] w w8 [⟨25, 8, (obj b1), 1, [.int .i64 (h.op), sS (h.field), sS (h.text), .int .i64 (h.edits), .int .i64 (h.exact), .int .u64 (h.lo), .int .u64 (h.hi), v]⟩] := Mem.join (R := []) hM4 m9
 refine xfc 11 12 ((((sizeQ q) : Nat) : Int) > 64) (fun h11p => ?_) (fun h11p => ?_)
 ·
  have hM12 := hM10.sub (sD sR)
  exact xr 9 (v := .int .i64 4) Tryz.func15 hR ⟨ret_int (check_big (by omega)).symm, hM12.sub sN⟩
 ·
  refine xc 4 ((((deepQ q) : Nat) : Int) > 8) (fun h13p => ?_) (fun h13p => ?_)
  ·
   have hM14 := hM10.sub (sD sR)
   exact xr 4 (v := .int .i64 4) Tryz.func15 hR ⟨ret_int (check_big (by omega)).symm, hM14.sub sN⟩
  ·
   refine xv 4 (c_loads (ys := [.int .i64 (h.op), sS (h.field), sS (h.text), .int .i64 (h.edits), .int .i64 (h.exact), .int .u64 (h.lo), .int .u64 (h.hi), v]) aE25 (hM10.rd 0 rfl) (cel_obj b1 0) rfl (lq rfl)) ?_
   have hM16 := hM10.sub (sD sR)
   refine xk 0 (right_c q h he v (hq.kept hM16.kept) (by omega)) (fun w17 m18 => ?_)
   have hM19 : Mem [] w w17 [] := Mem.join (R := []) hM16 m18
   refine xb 2 (!(rightQ q)) (fun h20 => ?_) (fun h20 => ?_)
   ·
    exact xr 4 (v := .int .i64 20) Tryz.func15 hR ⟨ret_int (check_bad (by omega) (by have z := h20; simpa using z)).symm, hM19.sub sN⟩
   ·
    exact xr 5 (v := .int .i64 0) Tryz.func15 hR ⟨ret_int (check_good (by omega) (by have z := h20; simpa using z)).symm, hM19.sub sN⟩

set_option maxHeartbeats 1000000 in
theorem rcheck_c {w : World} (q : Q) (h : Hd) (he : h = q.h) (v : Value) (hq : RdQ w q v) (hb : bulkQ q ≤ 1048576) :
  Calls Tryz.prog 18 #[.agg #[.int .i64 (h.op), sS (h.field), sS (h.text), .int .i64 (h.edits), .int .i64 (h.exact), .int .u64 (h.lo), .int .u64 (h.hi), v]] w (fun e w' => e = .returned (.int .i64 (checkQ q)) ∧ Mem [] w w' []) := by
 obtain ⟨L, hr, hl, hh, hs⟩ := hq.inv
 have hbl : bulkL q.l + q.h.field.length + q.h.text.length + 1 = bulkQ q := by cases q; rw [bulkQ_mk]; rfl
 have hln := bulk_len q.l
 refine xe 14 Tryz.func18 (fun R hR => ?_)
 have hM0 := Mem.start w
 refine xx 2 (m_box (T := 25) (k := 8) (u := .agg #[.int .i64 (h.op), sS (h.field), sS (h.text), .int .i64 (h.edits), .int .i64 (h.exact), .int .u64 (h.lo), .int .u64 (h.hi), v]) rfl rfl hM0) (fun b1 w2 hM4 => ?_)
 refine xv 5 (c_loads (ys := [.int .i64 (h.op), sS (h.field), sS (h.text), .int .i64 (h.edits), .int .i64 (h.exact), .int .u64 (h.lo), .int .u64 (h.hi), v]) aE25 (hM4.rd 0 rfl) (cel_obj b1 0) rfl (lq rfl)) ?_
 refine xk 0 (parts_c q h he v (hq.kept hM4.kept) (by omega)) (fun w8 m9 => ?_)
 have hM10 : Mem [] w w8 [⟨25, 8, (obj b1), 1, [.int .i64 (h.op), sS (h.field), sS (h.text), .int .i64 (h.edits), .int .i64 (h.exact), .int .u64 (h.lo), .int .u64 (h.hi), v]⟩] := Mem.join (R := []) hM4 m9
 refine xfc 2 6 ((((sizeQ q) : Nat) : Int) > 64) (fun h11p => ?_) (fun h11p => ?_)
 ·
  have hM16 := hM10.sub (sD sR)
  exact xr 10 (v := .int .i64 4) Tryz.func18 hR ⟨ret_int (check_big (by omega)).symm, hM16.sub sN⟩
 ·
  refine xv 0 (c_loads (ys := [.int .i64 (h.op), sS (h.field), sS (h.text), .int .i64 (h.edits), .int .i64 (h.exact), .int .u64 (h.lo), .int .u64 (h.hi), v]) aE25 (hM10.rd 0 rfl) (cel_obj b1 0) rfl (lq rfl)) ?_
  refine xk 0 (deep_c q h he v (hq.kept hM10.kept) (by omega)) (fun w13 m14 => ?_)
  have hM15 : Mem [] w w13 [⟨25, 8, (obj b1), 1, [.int .i64 (h.op), sS (h.field), sS (h.text), .int .i64 (h.edits), .int .i64 (h.exact), .int .u64 (h.lo), .int .u64 (h.hi), v]⟩] := Mem.join (R := []) hM10 m14
  refine xc 3 ((((deepQ q) : Nat) : Int) > 8) (fun h17p => ?_) (fun h17p => ?_)
  ·
   have hM18 := hM15.sub (sD sR)
   exact xr 4 (v := .int .i64 4) Tryz.func18 hR ⟨ret_int (check_big (by omega)).symm, hM18.sub sN⟩
  ·
   refine xv 4 (c_loads (ys := [.int .i64 (h.op), sS (h.field), sS (h.text), .int .i64 (h.edits), .int .i64 (h.exact), .int .u64 (h.lo), .int .u64 (h.hi), v]) aE25 (hM15.rd 0 rfl) (cel_obj b1 0) rfl (lq rfl)) ?_
   have hM20 := hM15.sub (sD sR)
   refine xk 0 (rright_c q h he v (hq.kept hM20.kept) (by omega)) (fun w21 m22 => ?_)
   have hM23 : Mem [] w w21 [] := Mem.join (R := []) hM20 m22
   refine xb 2 (!(rightQ q)) (fun h24 => ?_) (fun h24 => ?_)
   ·
    exact xr 4 (v := .int .i64 20) Tryz.func18 hR ⟨ret_int (check_bad (by omega) (by have z := h24; simpa using z)).symm, hM23.sub sN⟩
   ·
    exact xr 5 (v := .int .i64 0) Tryz.func18 hR ⟨ret_int (check_good (by omega) (by have z := h24; simpa using z)).symm, hM23.sub sN⟩


end Go.Proofs.YthpodbngljfdmaaGreatDoor


namespace Go.SynP
set_option linter.unusedVariables false
open Go Go.Gw Go.UtfP Go.TokP Go.QryP Go.RealP Go.RealQ

/-- behind blanks -/
def blankP (s : List UInt8) : Nat → Nat → Nat
  | 0, i => i
  | n + 1, i => if i < s.length ∧ bl s i = 32 then blankP s n (i + 1) else i
def skipP (s : List UInt8) (i : Nat) : Nat := blankP s (s.length - i) i
def takeP (s : List UInt8) (c : Int) (i : Nat) : Except Nat Nat := if i < s.length ∧ bl s i = c then .ok (i + 1) else .error i
def letterP (c : Int) : Bool := decide (97 ≤ c ∧ c ≤ 122 ∨ 48 ≤ c ∧ c ≤ 57 ∨ c = 95)
/-- behind a name's letters -/
def nameEnd (s : List UInt8) : Nat → Nat → Nat
  | 0, i => i
  | n + 1, i => if letterP (bl s i) then nameEnd s n (i + 1) else i
def namE (s : List UInt8) (i : Nat) : Nat := nameEnd s (s.length - i) i
/-- a text in quotes, behind the first of them: acc, from a place on -/
def quoteL (s : List UInt8) : Nat → Nat → List UInt8 → Except Nat (List UInt8 × Nat)
  | 0, i, acc => .error i
  | n + 1, i, acc =>
    if ¬ i < s.length then .error i
    else if bl s i = 34 then .ok (acc, i + 1)
    else if bl s i = 92 then
      if bl s (i + 1) = 34 ∨ bl s (i + 1) = 92 then quoteL s n (i + 2) (acc ++ [s.getD (i + 1) 0]) else .error (i + 1)
    else quoteL s n (i + 1) (acc ++ [s.getD i 0])
def quotedP (s : List UInt8) (i : Nat) : Except Nat (List UInt8 × Nat) := match takeP s 34 i with
  | .error k => .error k
  | .ok j => quoteL s (s.length - j + 1) j []
def digitP (c : Int) : Bool := decide (48 ≤ c ∧ c ≤ 57)
/-- one or two digits -/
def smallP (s : List UInt8) (i : Nat) : Except Nat (Int × Nat) :=
  if digitP (bl s i) then
    if digitP (bl s (i + 1)) then .ok (10 * (bl s i - 48) + (bl s (i + 1) - 48), i + 2) else .ok (bl s i - 48, i + 1)
  else .error i
def hexDig (c : Int) : Option Nat := if 48 ≤ c ∧ c ≤ 57 then some (c - 48).toNat else if 97 ≤ c ∧ c ≤ 102 then some (c - 87).toNat else none
def hexL : List UInt8 → Nat → Option Nat
  | [], n => some n
  | c :: r, n => match hexDig (c.toNat : Int) with
    | some d => hexL r (16 * n + d)
    | none => none
/-- sixteen digits behind a mark -/
def hexP (t : List UInt8) : Option Nat := if t.length = 17 ∧ bl t 0 = 35 then hexL (t.drop 1) 0 else none
/-- a number up to a byte that ends it -/
def numberP (s : List UInt8) (e : Int) (i : Nat) : Except Nat (Nat × Nat) :=
  let n := Lib.indexByte (s.drop i) e.toNat.toUInt8
  if n < 0 then .error i else
  let t := (s.take (i + n.toNat)).drop i
  match hexP t with
  | some v => .ok (v, i + n.toNat + 1)
  | none => if parseE t = 0 then .ok (parseV t, i + n.toNat + 1) else .error i
def leafP (s : List UInt8) (i : Nat) : Except Nat (Q × Nat) :=
  let j := namE s i
  if j = i ∨ i + 16 < j then .error i else
  match takeP s 58 j with
  | .error k => .error k
  | .ok a =>
    let nm := (s.take j).drop i
    if bl s a = 91 then
      match numberP s 32 (a + 1) with
      | .error k => .error k
      | .ok (lo, b) => match numberP s 93 b with
        | .error k => .error k
        | .ok (hi, c) => .ok (.mk ⟨6, nm, [], 0, 0, (lo : Int), (hi : Int)⟩ [], c)
    else match quotedP s a with
      | .error k => .error k
      | .ok (tx, b) =>
        if bl s b = 42 then .ok (.mk ⟨2, nm, tx, 0, 0, 0, 0⟩ [], b + 1)
        else if bl s b = 63 then .ok (.mk ⟨3, nm, tx, 0, 0, 0, 0⟩ [], b + 1)
        else if bl s b = 43 then .ok (.mk ⟨5, nm, tx, 0, 0, 0, 0⟩ [], b + 1)
        else if bl s b = 126 then
          match smallP s (b + 1) with
          | .error k => .error k
          | .ok (e, c) => match takeP s 44 c with
            | .error k => .error k
            | .ok d => match smallP s d with
              | .error k => .error k
              | .ok (x, g) => .ok (.mk ⟨4, nm, tx, e, x, 0, 0⟩ [], g)
        else .ok (.mk ⟨1, nm, tx, 0, 0, 0, 0⟩ [], b)
def manyQ (op : Int) : List Q → Q
  | [q] => q
  | l => .mk (opH op) l
/-- what is read: a query, the rest of one, a row, the rest of one, a part -/
inductive Tg where
  | E
  | EL (acc : List Q)
  | B
  | BL (acc : List Q)
  | O
def prs (s : List UInt8) : Nat → Tg → Nat → Except Nat (Q × Nat)
  | 0, _, i => .error i
  | n + 1, .E, i => match prs s n .B i with
    | .error k => .error k
    | .ok (q, j) => prs s n (.EL [q]) j
  | n + 1, .EL acc, i => if bl s (skipP s i) = 124 then
      match prs s n .B (skipP s i + 1) with
      | .error k => .error k
      | .ok (q, j) => prs s n (.EL (acc ++ [q])) j
    else .ok (manyQ 8 acc, skipP s i)
  | n + 1, .B, i => match prs s n .O i with
    | .error k => .error k
    | .ok (q, j) => prs s n (.BL [q]) j
  | n + 1, .BL acc, i => if skipP s i = s.length ∨ bl s (skipP s i) = 124 ∨ bl s (skipP s i) = 41 then .ok (manyQ 7 acc, skipP s i)
    else match prs s n .O (skipP s i) with
      | .error k => .error k
      | .ok (q, j) => prs s n (.BL (acc ++ [q])) j
  | n + 1, .O, i => if bl s (skipP s i) = 45 then
      match prs s n .O (skipP s i + 1) with
      | .error k => .error k
      | .ok (q, j) => .ok (.mk (opH 9) [q], j)
    else if bl s (skipP s i) = 40 then
      match prs s n .E (skipP s i + 1) with
      | .error k => .error k
      | .ok (q, j) => match takeP s 41 j with
        | .error k => .error k
        | .ok m => .ok (q, m)
    else if bl s (skipP s i) = 42 then .ok (.mk (opH 10) [], skipP s i + 1)
    else leafP s (skipP s i)
/-- the fuel that suffices -/
def fuel (s : List UInt8) : Nat := 5 * s.length + 8
/-- a query's text: the query, or an error and where it was seen -/
def parseQ (s : List UInt8) : Q × Nat × Int :=
  if 8192 < s.length then (q0, 0, 4) else
  match prs s (fuel s) .E 0 with
  | .error k => (q0, k, 21)
  | .ok (q, j) => if skipP s j < s.length then (q0, skipP s j, 21) else if checkQ q = 0 then (q, 0, 0) else (q0, 0, checkQ q)

/-! ### laws of the small steps -/
variable {s : List UInt8} {i j : Nat}
theorem bl_out (h : ¬ i < s.length) : bl s i = 0 := by
  unfold bl; rw [List.getD_eq_getElem?_getD, List.getElem?_eq_none (by omega)]; rfl
theorem skip_go (h : i < s.length) (h2 : bl s i = 32) : skipP s i = skipP s (i + 1) := by
  unfold skipP
  obtain ⟨m, hm⟩ : ∃ m, s.length - i = m + 1 := ⟨s.length - i - 1, by omega⟩
  rw [hm, show s.length - (i + 1) = m by omega]
  exact if_pos ⟨h, h2⟩
theorem skip_stop (h : ¬ (i < s.length ∧ bl s i = 32)) : skipP s i = i := by
  unfold skipP
  cases hm : s.length - i with
  | zero => rfl
  | succ m => exact if_neg h
theorem blank_le : ∀ (n i : Nat), i ≤ blankP s n i ∧ (i ≤ s.length → blankP s n i ≤ s.length)
  | 0, i => ⟨Nat.le_refl _, id⟩
  | n + 1, i => by
    unfold blankP
    split
    · have := blank_le n (i + 1)
      exact ⟨by omega, fun _ => this.2 (by omega)⟩
    · exact ⟨Nat.le_refl _, id⟩
theorem skip_le (s : List UInt8) (i : Nat) : i ≤ skipP s i ∧ (i ≤ s.length → skipP s i ≤ s.length) := blank_le _ i
theorem letter_in (h : letterP (bl s i) = true) : i < s.length := by
  rcases Nat.lt_or_ge i s.length with g | g
  · exact g
  · rw [bl_out (by omega)] at h; simp [letterP] at h
theorem nam_go (h : letterP (bl s i) = true) : namE s i = namE s (i + 1) := by
  have hi := letter_in h
  unfold namE
  obtain ⟨m, hm⟩ : ∃ m, s.length - i = m + 1 := ⟨s.length - i - 1, by omega⟩
  rw [hm, show s.length - (i + 1) = m by omega]
  show (if letterP (bl s i) then _ else _) = _
  rw [if_pos h]
theorem nam_stop (h : letterP (bl s i) = false) : namE s i = i := by
  unfold namE
  cases hm : s.length - i with
  | zero => rfl
  | succ m => show (if letterP (bl s i) then _ else _) = _; rw [if_neg (by rw [h]; simp)]
theorem namEnd_le : ∀ (n i : Nat), i ≤ nameEnd s n i ∧ (i ≤ s.length → nameEnd s n i ≤ s.length)
  | 0, i => ⟨Nat.le_refl _, id⟩
  | n + 1, i => by
    unfold nameEnd
    split
    · rename_i h
      have := namEnd_le n (i + 1)
      have := letter_in h
      exact ⟨by omega, fun _ => (namEnd_le n (i + 1)).2 (by omega)⟩
    · exact ⟨Nat.le_refl _, id⟩
theorem nam_le (s : List UInt8) (i : Nat) : i ≤ namE s i ∧ (i ≤ s.length → namE s i ≤ s.length) := namEnd_le _ i
theorem letter_iff (c : Int) : letterP c = true ↔ (97 ≤ c ∧ c ≤ 122 ∨ 48 ≤ c ∧ c ≤ 57 ∨ c = 95) := by unfold letterP; exact decide_eq_true_iff
theorem letter_no (c : Int) : letterP c = false ↔ ¬ (97 ≤ c ∧ c ≤ 122 ∨ 48 ≤ c ∧ c ≤ 57 ∨ c = 95) := by unfold letterP; exact decide_eq_false_iff_not
theorem take_ok (h : i < s.length) {c : Int} (h2 : bl s i = c) : takeP s c i = .ok (i + 1) := if_pos ⟨h, h2⟩
theorem take_err {c : Int} (h : ¬ (i < s.length ∧ bl s i = c)) : takeP s c i = .error i := if_neg h
theorem take_inv {c : Int} {a : Nat} (h : takeP s c i = .ok a) : a = i + 1 ∧ i < s.length ∧ bl s i = c := by
  unfold takeP at h
  split at h
  · rename_i g; simp only [Except.ok.injEq] at h; exact ⟨h.symm, g⟩
  · cases h
end Go.SynP
namespace Go.SynP
open Go Go.Gw Go.UtfP Go.TokP Go.QryP Go.RealP Go.RealQ
variable {s : List UInt8} {i j : Nat}
theorem bl_in (h : ¬ bl s i = 0) : i < s.length := by
  rcases Nat.lt_or_ge i s.length with g | g
  · exact g
  · exact absurd (bl_out (by omega)) h
theorem bl_or (s : List UInt8) (i : Nat) : bl s i = 0 ∨ i < s.length := by
  rcases Nat.lt_or_ge i s.length with g | g
  · exact .inr g
  · exact .inl (bl_out (by omega))
theorem small_two (h1 : 48 ≤ bl s i ∧ bl s i ≤ 57) (h2 : 48 ≤ bl s (i + 1) ∧ bl s (i + 1) ≤ 57) : smallP s i = .ok (10 * (bl s i - 48) + (bl s (i + 1) - 48), i + 2) := by
  unfold smallP digitP
  rw [if_pos (decide_eq_true h1), if_pos (decide_eq_true h2)]
theorem small_one (h1 : 48 ≤ bl s i ∧ bl s i ≤ 57) (h2 : ¬ (48 ≤ bl s (i + 1) ∧ bl s (i + 1) ≤ 57)) : smallP s i = .ok (bl s i - 48, i + 1) := by
  unfold smallP digitP
  rw [if_pos (decide_eq_true h1), if_neg (by simpa using h2)]
theorem small_none (h1 : ¬ (48 ≤ bl s i ∧ bl s i ≤ 57)) : smallP s i = .error i := by
  unfold smallP digitP
  rw [if_neg (by simpa using h1)]
theorem small_inv {x : Int} {k : Nat} (h : smallP s i = .ok (x, k)) : i < k ∧ k ≤ s.length ∧ 0 ≤ x ∧ x ≤ 99 := by
  by_cases h1 : 48 ≤ bl s i ∧ bl s i ≤ 57
  · have hi := bl_in (s := s) (i := i) (by omega)
    by_cases h2 : 48 ≤ bl s (i + 1) ∧ bl s (i + 1) ≤ 57
    · have hi2 := bl_in (s := s) (i := i + 1) (by omega)
      rw [small_two h1 h2] at h; simp only [Except.ok.injEq, Prod.mk.injEq] at h; omega
    · rw [small_one h1 h2] at h; simp only [Except.ok.injEq, Prod.mk.injEq] at h; omega
  · rw [small_none h1] at h; cases h
theorem quote_end {n : Nat} {acc : List UInt8} (h : ¬ j < s.length) : quoteL s (n + 1) j acc = .error j := by unfold quoteL; rw [if_pos h]
theorem quote_close {n : Nat} {acc : List UInt8} (h : bl s j = 34) : quoteL s (n + 1) j acc = .ok (acc, j + 1) := by
  have := bl_in (s := s) (i := j) (by omega)
  unfold quoteL; rw [if_neg (by omega), if_pos h]
theorem quote_bad {n : Nat} {acc : List UInt8} (h : bl s j = 92) (h2 : ¬ bl s (j + 1) = 34) (h3 : ¬ bl s (j + 1) = 92) : quoteL s (n + 1) j acc = .error (j + 1) := by
  have := bl_in (s := s) (i := j) (by omega)
  unfold quoteL; rw [if_neg (by omega), if_neg (by omega), if_pos h, if_neg (by omega)]
theorem quote_esc {n : Nat} {acc : List UInt8} (h : bl s j = 92) (h2 : bl s (j + 1) = 34 ∨ bl s (j + 1) = 92) : quoteL s (n + 1) j acc = quoteL s n (j + 2) (acc ++ [s.getD (j + 1) 0]) := by
  have := bl_in (s := s) (i := j) (by omega)
  conv => lhs; unfold quoteL
  rw [if_neg (by omega), if_neg (by omega), if_pos h, if_pos h2]
theorem quote_byte {n : Nat} {acc : List UInt8} (h0 : j < s.length) (h : ¬ bl s j = 34) (h2 : ¬ bl s j = 92) : quoteL s (n + 1) j acc = quoteL s n (j + 1) (acc ++ [s.getD j 0]) := by
  conv => lhs; unfold quoteL
  rw [if_neg (by omega), if_neg h, if_neg h2]
theorem bytes_snoc (L : List Int) (s : List UInt8) (j : Nat) : bytesOf (L ++ [bl s j]) = bytesOf L ++ [s.getD j 0] := by
  unfold bytesOf bl
  rw [List.map_append]
  simp
theorem quote_le : ∀ (n j : Nat) (acc : List UInt8) (x : List UInt8 × Nat), quoteL s n j acc = .ok x → j < x.2 ∧ x.2 ≤ s.length ∧ x.1.length + j < acc.length + x.2
  | 0, j, acc, x, h => by simp [quoteL] at h
  | n + 1, j, acc, x, h => by
    unfold quoteL at h
    split at h
    · cases h
    · split at h
      · simp only [Except.ok.injEq] at h; subst h; simp only; omega
      · split at h
        · split at h
          · rename_i h3
            have h2 := bl_in (s := s) (i := j + 1) (by omega)
            have := quote_le n (j + 2) _ x h
            simp only [List.length_append, List.length_cons, List.length_nil] at this
            omega
          · cases h
        · have := quote_le n (j + 1) _ x h
          simp only [List.length_append, List.length_cons, List.length_nil] at this
          omega
theorem quoted_inv {x : List UInt8} {k : Nat} (h : quotedP s i = .ok (x, k)) : i < k ∧ k ≤ s.length ∧ x.length ≤ s.length := by
  unfold quotedP at h
  split at h
  · cases h
  · rename_i j hj
    have h1 := take_inv hj
    have h2 := quote_le _ _ _ _ h
    simp only [List.length_nil] at h2
    omega
end Go.SynP
namespace Go.SynP
open Go Go.Gw Go.UtfP Go.TokP Go.QryP Go.RealP Go.RealQ
variable {s : List UInt8} {i m : Nat} {c : Int}
theorem number_none (hx : Lib.indexByte (s.drop i) c.toNat.toUInt8 = -1) : numberP s c i = .error i := by
  unfold numberP; simp only [hx]; rfl
theorem number_eq (hx : Lib.indexByte (s.drop i) c.toNat.toUInt8 = ((m : Nat) : Int)) : numberP s c i = match hexP ((s.take (i + m)).drop i) with
  | some v => .ok (v, i + m + 1)
  | none => if parseE ((s.take (i + m)).drop i) = 0 then .ok (parseV ((s.take (i + m)).drop i), i + m + 1) else .error i := by
  unfold numberP
  simp only [hx, Int.toNat_natCast]
  rw [if_neg (by omega)]
theorem number_hex (hx : Lib.indexByte (s.drop i) c.toNat.toUInt8 = ((m : Nat) : Int)) {v : Nat} (h : hexP ((s.take (i + m)).drop i) = some v) : numberP s c i = .ok (v, i + (m + 1)) := by rw [number_eq hx, h]; rfl
theorem number_real (hx : Lib.indexByte (s.drop i) c.toNat.toUInt8 = ((m : Nat) : Int)) (h : hexP ((s.take (i + m)).drop i) = none) (h2 : parseE ((s.take (i + m)).drop i) = 0) : numberP s c i = .ok (parseV ((s.take (i + m)).drop i), i + (m + 1)) := by
  rw [number_eq hx, h]; simp only; rw [if_pos h2]; rfl
theorem number_bad (hx : Lib.indexByte (s.drop i) c.toNat.toUInt8 = ((m : Nat) : Int)) (h : hexP ((s.take (i + m)).drop i) = none) (h2 : ¬ parseE ((s.take (i + m)).drop i) = 0) : numberP s c i = .error i := by
  rw [number_eq hx, h]; simp only; rw [if_neg h2]
theorem index_lt : ∀ (l : List UInt8) (c : UInt8), Lib.indexByte l c < l.length
  | [], c => by simp [Lib.indexByte]
  | b :: l, c => by
    have := index_lt l c
    unfold Lib.indexByte
    split
    · simp only [List.length_cons]; omega
    · split
      · simp only [List.length_cons]; omega
      · simp only [List.length_cons]; omega
theorem index_cases (l : List UInt8) (c : UInt8) : Lib.indexByte l c = -1 ∨ ∃ m : Nat, Lib.indexByte l c = (m : Int) ∧ m < l.length := by
  have h1 := Lib.indexByte_ge l c
  have h2 := index_lt l c
  by_cases h : Lib.indexByte l c = -1
  · exact .inl h
  · exact .inr ⟨(Lib.indexByte l c).toNat, by omega, by omega⟩
theorem number_inv {x k : Nat} (hi : i ≤ s.length) (h : numberP s c i = .ok (x, k)) : i < k ∧ k ≤ s.length := by
  rcases index_cases (s.drop i) c.toNat.toUInt8 with hx | ⟨m, hx, hm⟩
  · rw [number_none hx] at h; cases h
  · rw [List.length_drop] at hm
    rw [number_eq hx] at h
    split at h
    · simp only [Except.ok.injEq, Prod.mk.injEq] at h; omega
    · split at h
      · simp only [Except.ok.injEq, Prod.mk.injEq] at h; omega
      · cases h
end Go.SynP


namespace Go.SynP
set_option linter.unusedVariables false
open Go Go.Gw Go.UtfP Go.QryP

/-- a digit of base sixteen -/
def hexC (u : Nat) : Int := if u < 10 then ((48 + u : Nat) : Int) else ((87 + u : Nat) : Int)
/-- a number's digits, the greatest first -/
def hexF : Nat → Nat → List Int
  | 0, u => [hexC (u % 16)]
  | n + 1, u => if u < 16 then [hexC u] else hexF n (u / 16) ++ [hexC (u % 16)]
def bitsP (n : Nat) : List UInt8 := 35 :: (List.replicate (16 - (hexF 15 n).length) 48 ++ bytesOf (hexF 15 n))
/-- a byte of a text in quotes -/
def escP (c : UInt8) : List UInt8 := if c = 92 then [92, 92] else if c = 34 then [92, 34] else [c]
def quoteW (s : List UInt8) : List UInt8 := 34 :: (s.flatMap escP ++ [34])
/-- a number below a hundred -/
def decW (n : Int) : List UInt8 := if n < 10 then [(48 + n).toNat.toUInt8] else [(48 + n / 10).toNat.toUInt8, (48 + n % 10).toNat.toUInt8]
def joinW (sep : List UInt8) : List (List UInt8) → List UInt8
  | [] => []
  | [x] => x
  | x :: r => x ++ (sep ++ joinW sep r)
/-- must a part stand in brackets? -/
def brP (op k : Int) : Bool := decide (k = 8 ∨ k = 7 ∧ op ≠ 8)
mutual
def textQ : Q → List UInt8
  | .mk h l =>
    if h.op = 10 then [42]
    else if h.op = 9 then 45 :: (textL h.op l).headD []
    else if h.op = 7 then joinW [32] (textL h.op l)
    else if h.op = 8 then joinW [32, 124, 32] (textL h.op l)
    else if h.op = 6 then h.field ++ ([58, 91] ++ (bitsP h.lo.toNat ++ (32 :: (bitsP h.hi.toNat ++ [93]))))
    else h.field ++ (58 :: (quoteW h.text ++ (if h.op = 2 then [42] else if h.op = 3 then [63] else if h.op = 5 then [43] else if h.op = 4 then 126 :: (decW h.edits ++ (44 :: decW h.exact)) else [])))
def textL (op : Int) : List Q → List (List UInt8)
  | [] => []
  | q :: r => (if brP op q.h.op then 40 :: (textQ q ++ [41]) else textQ q) :: textL op r
end
/-- a query's text, or why there is none -/
def printQ (q : Q) : List UInt8 × Int := if checkQ q = 0 then (if 8192 < (textQ q).length then ([], 4) else (textQ q, 0)) else ([], checkQ q)
theorem hexC_all : ∀ i : Fin 16, (48 ≤ hexC i.val ∧ hexC i.val ≤ 102) ∧ hexDig (hexC i.val) = some i.val := by decide
theorem hexC_bd {u : Nat} (h : u < 16) : 0 ≤ hexC u ∧ hexC u ≤ 255 := by
  have h1 : 48 ≤ hexC u ∧ hexC u ≤ 102 := (hexC_all ⟨u, h⟩).1
  omega
theorem hexF_small {n u : Nat} (h : u < 16) : hexF n u = [hexC u] := by
  cases n with
  | zero => unfold hexF; rw [Nat.mod_eq_of_lt h]
  | succ n => unfold hexF; rw [if_pos h]
theorem hexF_step {n u : Nat} (h : ¬ u < 16) : hexF (n + 1) u = hexF n (u / 16) ++ [hexC (u % 16)] := by
  conv => lhs; unfold hexF
  rw [if_neg h]
theorem hexF_len : ∀ (n u : Nat), 1 ≤ (hexF n u).length ∧ (hexF n u).length ≤ n + 1
  | 0, u => by simp [hexF]
  | n + 1, u => by
    by_cases h : u < 16
    · rw [hexF_small h]; simp
    · have := hexF_len n (u / 16)
      rw [hexF_step h]; simp only [List.length_append, List.length_cons, List.length_nil]; omega
theorem bits_len (n : Nat) : (bytesOf (hexF 15 n)).length ≤ 16 := by
  have := hexF_len 15 n
  rw [show (bytesOf (hexF 15 n)).length = (hexF 15 n).length by unfold bytesOf; simp]; omega
theorem bits_eq {n : Nat} : [35] ++ List.replicate (16 - (bytesOf (hexF 15 n)).length) 48 ++ bytesOf (hexF 15 n) = bitsP n := by
  rw [show (bytesOf (hexF 15 n)).length = (hexF 15 n).length by unfold bytesOf; simp]; rfl
theorem rep_one : ∀ (c : Nat), Lib.repeatL [48] c = List.replicate c 48
  | 0 => rfl
  | c + 1 => by rw [List.replicate_succ, ← rep_one c]; rfl
theorem bitsP_len (n : Nat) : (bitsP n).length = 17 := by
  have := hexF_len 15 n
  unfold bitsP
  simp only [List.length_cons, List.length_append, List.length_replicate]
  rw [show (bytesOf (hexF 15 n)).length = (hexF 15 n).length by unfold bytesOf; simp]
  omega
theorem fb_step {n u : Nat} (hu : u < 16 ^ (n + 1)) (h : ¬ u < 16) : ∃ m, n = m + 1 ∧ u / 16 < 16 ^ (m + 1) := by
  match n, hu with
  | 0, hu => exact absurd hu h
  | m + 1, hu => exact ⟨m, rfl, by rw [Nat.pow_succ] at hu; omega⟩
theorem drop_set {l : List Int} {i : Nat} {d : Int} (h : i < l.length) : (l.set i d).drop i = d :: l.drop (i + 1) := by
  rw [List.drop_eq_getElem_cons (by simpa using h)]
  congr 1
  · simp
  · rw [List.drop_set]; simp
theorem hexC_at : ∀ i : Fin 16, bl [48, 49, 50, 51, 52, 53, 54, 55, 56, 57, 97, 98, 99, 100, 101, 102, 103, 104, 105, 106, 107, 108, 109, 110, 111, 112, 113, 114, 115, 116, 117, 118, 119, 120, 121, 122] i.val = hexC i.val := by decide
theorem hexC_of {u : Nat} (h : u < 16) : bl [48, 49, 50, 51, 52, 53, 54, 55, 56, 57, 97, 98, 99, 100, 101, 102, 103, 104, 105, 106, 107, 108, 109, 110, 111, 112, 113, 114, 115, 116, 117, 118, 119, 120, 121, 122] u = hexC u := hexC_at ⟨u, h⟩
end Go.SynP


namespace Go.Proofs.YthpodbngljfdmaaGreatDoor
open Go Go.Gw Go.UtfP Go.TokP Go.QryP Go.SynP Go.RealQ Go.SynV Go.RowKit
set_option linter.unusedVariables false
set_option linter.unusedSimpArgs false
set_option maxRecDepth 20000


set_option maxHeartbeats 400000 in
theorem next_c (s : List UInt8) (hs : s.length ≤ 8192) (i : Nat) (hi : i ≤ s.length) (b : Nat) {w : World} (hb : Rd w 2 (obj b) 1 [sS s, iN i])  :
  Calls Tryz.prog 41 #[pq b] w (fun e w' => e = .returned (.int .u8 (bl s i)) ∧ Mem [] w w' []) := by
 refine xe 22 Tryz.func41 (fun R hR => ?_)
 have hM0 := Mem.start w
 refine xh 6 [] hM0 sR (fun w1 hM2 hS3 => ?_)
 refine yla [0,1,2] 3 hS3 pE3 hb kp0 (cel_obj b 1) rfl ?_
 refine yla [4,5,6] 7 hS3 pE9 hb kp0 (cel_obj b 0) rfl ?_
 refine yv [] 8 (fun W_ hW_ => (show (Builtin.len_ #[9] 3 #[sS s]).run Tryz.prog W_ = .ok (iN s.length) W_ from f_len (by kernel_rfl))) hS3 ?_
 refine ydp [9] hS3 ?_
 refine xc 0 (((i : Nat) : Int) < ((s.length : Nat) : Int)) (fun h5p => ?_) (fun h5p => ?_)
 ·
  refine xh 1 [] hM2 sR (fun w6 hM7 hS8 => ?_)
  refine yla [0,1,2] 3 hS8 pE9 hb kp0 (cel_obj b 0) rfl ?_
  refine yla [4,5,6] 7 hS8 pE3 hb kp0 (cel_obj b 1) rfl ?_
  have hb10 := bl_bd s i
  refine yv [] 8 (fun W_ hW_ => (show (Instr.index 9 (sS s) (iN i)).run Tryz.prog W_ = .ok (.int .u8 (bl s i)) W_ from f_index i (by kernel_rfl) (by omega) (by omega))) hS8 ?_
  refine ydp [9] hS8 ?_
  exact xr 0 Tryz.func41 hR ⟨rfl, hM7.sub sN⟩
 ·
  exact xr 5 (v := .int .u8 0) Tryz.func41 hR ⟨ret_int (bl_out (by omega)).symm, hM2.sub sN⟩

def flt (t : TypeId) (k : Nat) : List PanicEntry := [{ v := .iface t (.agg #[iN k]), recovered := false }]
set_option maxHeartbeats 400000 in
theorem fail_c (s : List UInt8) (i : Nat) (b : Nat) {w : World} (hb : Rd w 2 (obj b) 1 [sS s, iN i])  :
  Calls Tryz.prog 23 #[pq b] w (fun e w' => e = .panicked (flt 47 i) ∧ Mem [] w w' []) := by
 refine xe 8 Tryz.func23 (fun R hR => ?_)
 have hM0 := Mem.start w
 refine xv 4 (c_load pE3 (hb.kept0 hM0.kept) (cel_obj b 1) rfl) ?_
 refine xpan 2 (v := (.iface 47 (.agg #[iN i]))) Tryz.func23 ?_
 rw [hR]
 exact ⟨rfl, hM0.none⟩


end Go.Proofs.YthpodbngljfdmaaGreatDoor


namespace Go.Proofs.YthpodbngljfdmaaGreatDoor
open Go Go.Gw Go.UtfP Go.TokP Go.QryP Go.SynP Go.RealQ Go.SynV Go.RowKit
set_option linter.unusedVariables false
set_option linter.unusedSimpArgs false
set_option maxRecDepth 20000


set_option maxHeartbeats 400000 in
theorem blanks_L (s : List UInt8) (hs : s.length ≤ 8192) (b : Nat) (i : Nat) {w0 : World} (R : Ending → World → Prop) (hR : R = (fun e w' => e = .returned (.tuple #[]) ∧ Mem [b] w0 w' [⟨51, 2, (obj b), 1, [sS s, iN (skipP s i)]⟩])) : ∀ (N : Nat) (j : Nat) (w : World) (hji : j ≤ s.length) (hj : skipP s j = skipP s i) (hM : Mem [b] w0 w [⟨51, 2, (obj b), 1, [sS s, iN j]⟩]) (hN : s.length - j < N), GoS Tryz.prog 22 R 31 [iC Tryz.f22 [0,0], iL Tryz.f22 [0,0], .inBlock 0] [(0, pq b)] w := by
 intro N
 induction N with
 | zero => intro j w hji hj hM hN; exact absurd hN (Nat.not_lt_zero _)
 | succ N ih =>
  intro j w hji hj hM hN
  refine xs ?_
  refine xh 2 [] hM (sK sR) (fun w1 hM2 hS3 => ?_)
  refine yl [0,1,2] 3 hS3 pE3 0 rfl (cel_obj b 1) rfl ?_
  refine yl [4,5,6] 7 hS3 pE9 0 rfl (cel_obj b 0) rfl ?_
  refine yv [] 8 (fun W_ hW_ => (show (Builtin.len_ #[9] 3 #[sS s]).run Tryz.prog W_ = .ok (iN s.length) W_ from f_len (by kernel_rfl))) hS3 ?_
  rcases Bool.eq_false_or_eq_true (decide (((j : Nat) : Int) < ((s.length : Nat) : Int))) with h5 | h5
  ·
   have h5p : ((j : Nat) : Int) < ((s.length : Nat) : Int) := of_decide_eq_true h5
   refine ye [9] 10 (decide (((j : Nat) : Int) < ((s.length : Nat) : Int))) true h5 hS3 ?_
   refine yl [11,12,13] 14 hS3 pE9 0 rfl (cel_obj b 0) rfl ?_
   refine yl [15,16,17] 18 hS3 pE3 0 rfl (cel_obj b 1) rfl ?_
   have hb6 := bl_bd s j
   refine yv [] 19 (fun W_ hW_ => (show (Instr.index 9 (sS s) (iN j)).run Tryz.prog W_ = .ok (.int .u8 (bl s j)) W_ from f_index j (by kernel_rfl) (by omega) (by omega))) hS3 ?_
   refine ydp [20,21] hS3 ?_
   refine xc 0 ((bl s j) = 32) (fun h7p => ?_) (fun h7p => ?_)
   ·
    refine xv 6 (c_load pE3 (hM2.rd 0 rfl) (cel_obj b 1) rfl) ?_
    refine xa 0 ((j : Nat) : Int) 1 (((j + 1) : Nat) : Int) ?_
    refine xst 2 (c_store (E := 3) (u := iN (j + 1)) (by kernel_rfl) hM2 0 rfl (cel_obj b 1) (by decide) rfl rfl) (fun w8 hM10 => ?_)
    exact xl 3 (ih (j + 1) _ (by omega) ((skip_go (by omega) (by omega)).symm.trans hj) hM10 (by omega))
   ·
    exact xr 1 Tryz.func22 hR ⟨rfl, hM2.cast (by rw [← hj, skip_stop (by omega)])⟩
  ·
   have h5p : ¬ (((j : Nat) : Int) < ((s.length : Nat) : Int)) := of_decide_eq_false h5
   refine ye [9] 10 (decide (((j : Nat) : Int) < ((s.length : Nat) : Int))) false h5 hS3 ?_
   refine ydp [11,12,13,14,15,16,17,18,19,20,21] hS3 ?_
   exact xr 2 Tryz.func22 hR ⟨rfl, hM2.cast (by rw [← hj, skip_stop (by omega)])⟩

set_option maxHeartbeats 400000 in
theorem blanks_c (s : List UInt8) (hs : s.length ≤ 8192) (b : Nat) (i : Nat) (hi : i ≤ s.length) {w : World} (hM : Mem [b] w w [⟨51, 2, (obj b), 1, [sS s, iN i]⟩])  :
  Calls Tryz.prog 22 #[pq b] w (fun e w' => e = .returned (.tuple #[]) ∧ Mem [b] w w' [⟨51, 2, (obj b), 1, [sS s, iN (skipP s i)]⟩]) := by
 refine xe 31 Tryz.func22 (fun R hR => ?_)
 exact xl 2 (blanks_L s hs b i R hR (s.length + 1) i w hi rfl hM (by omega))

set_option maxHeartbeats 400000 in
theorem take_c (s : List UInt8) (hs : s.length ≤ 8192) (c : Int) (b : Nat) (i : Nat) (hi : i ≤ s.length) {w : World} (hM : Mem [b] w w [⟨51, 2, (obj b), 1, [sS s, iN i]⟩])  :
  Calls Tryz.prog 76 #[pq b, .int .u8 c] w (Pst (flt 47) (takeP s c i) (fun j v w' => v = .tuple #[] ∧ Mem [b] w w' [⟨51, 2, (obj b), 1, [sS s, iN j]⟩]) b w) := by
 refine xe 36 Tryz.func76 (fun R hR => ?_)
 refine xh 2 [] hM (sK sR) (fun w1 hM2 hS3 => ?_)
 refine yl [0,1,2] 3 hS3 pE3 0 rfl (cel_obj b 1) rfl ?_
 refine yl [4,5,6] 7 hS3 pE9 0 rfl (cel_obj b 0) rfl ?_
 refine yv [] 8 (fun W_ hW_ => (show (Builtin.len_ #[9] 3 #[sS s]).run Tryz.prog W_ = .ok (iN s.length) W_ from f_len (by kernel_rfl))) hS3 ?_
 rcases Bool.eq_false_or_eq_true (decide (((i : Nat) : Int) ≥ ((s.length : Nat) : Int))) with h5 | h5
 ·
  have h5p : ((i : Nat) : Int) ≥ ((s.length : Nat) : Int) := of_decide_eq_true h5
  refine ye [9] 10 (decide (((i : Nat) : Int) ≥ ((s.length : Nat) : Int))) true h5 hS3 ?_
  refine ydp [11,12,13,14,15,16,17,18,19,20,21,22] hS3 ?_
  refine xkd 3 Tryz.func76 (fail_c s i b (hM2.rd 0 rfl)) (fun w6 m7 => ?_)
  have hM8 := (hM2.j m7).none
  rw [hR]
  exact .inr ⟨_, take_err (by omega), rfl, hM8⟩
 ·
  have h5p : ¬ (((i : Nat) : Int) ≥ ((s.length : Nat) : Int)) := of_decide_eq_false h5
  refine ye [9] 10 (decide (((i : Nat) : Int) ≥ ((s.length : Nat) : Int))) false h5 hS3 ?_
  refine yl [11,12,13] 14 hS3 pE9 0 rfl (cel_obj b 0) rfl ?_
  refine yl [15,16,17] 18 hS3 pE3 0 rfl (cel_obj b 1) rfl ?_
  have hb9 := bl_bd s i
  refine yv [] 19 (fun W_ hW_ => (show (Instr.index 9 (sS s) (iN i)).run Tryz.prog W_ = .ok (.int .u8 (bl s i)) W_ from f_index i (by kernel_rfl) (by omega) (by omega))) hS3 ?_
  refine ydp [20,21,22] hS3 ?_
  refine xcn 0 ((bl s i) = c) (fun h10p => ?_) (fun h10p => ?_)
  ·
   refine xkd 2 Tryz.func76 (fail_c s i b (hM2.rd 0 rfl)) (fun w11 m12 => ?_)
   have hM13 := (hM2.j m12).none
   rw [hR]
   exact .inr ⟨_, take_err (by omega), rfl, hM13⟩
  ·
   refine xv 5 (c_load pE3 (hM2.rd 0 rfl) (cel_obj b 1) rfl) ?_
   refine xa 0 ((i : Nat) : Int) 1 (((i + 1) : Nat) : Int) ?_
   refine xst 2 (c_store (E := 3) (u := iN (i + 1)) (by kernel_rfl) hM2 0 rfl (cel_obj b 1) (by decide) rfl rfl) (fun w14 hM16 => ?_)
   refine xr0 1 (v := .tuple #[]) Tryz.func76 ?_
   rw [hR]
   exact .inl ⟨_, _, take_ok (by omega) (by omega), rfl, rfl, hM16⟩


end Go.Proofs.YthpodbngljfdmaaGreatDoor


namespace Go.Proofs.YthpodbngljfdmaaGreatDoor
open Go Go.Gw Go.UtfP Go.TokP Go.QryP Go.SynP Go.RealQ Go.SynV Go.RowKit
set_option linter.unusedVariables false
set_option linter.unusedSimpArgs false
set_option maxRecDepth 20000


set_option maxHeartbeats 400000 in
theorem small_c (s : List UInt8) (hs : s.length ≤ 8192) (b : Nat) (i : Nat) (hi : i ≤ s.length) {w : World} (hM : Mem [b] w w [⟨51, 2, (obj b), 1, [sS s, iN i]⟩])  :
  Calls Tryz.prog 106 #[pq b] w (Pst (flt 47) (smallP s i) (fun x v w' => v = .int .i64 x.1 ∧ Mem [b] w w' [⟨51, 2, (obj b), 1, [sS s, iN x.2]⟩]) b w) := by
 refine xe 49 Tryz.func106 (fun R hR => ?_)
 refine xh 5 [] hM (sK sR) (fun w1 hM2 hS3 => ?_)
 refine yl [0,1,2] 3 hS3 pE3 0 rfl (cel_obj b 1) rfl ?_
 refine ydp [4,5] hS3 ?_
 refine xv 9 (c_load pE3 (hM2.rd 0 rfl) (cel_obj b 1) rfl) ?_
 refine xa 1 ((i : Nat) : Int) 2 (((i + 2) : Nat) : Int) ?_
 refine xfc 2 16 (((i : Nat) : Int) < (((i + 2) : Nat) : Int)) (fun h7p => ?_) (fun h7p => ?_)
 ·
  have hb11 := bl_bd s i
  have hb12 := bl_or s i
  refine xk 1 (next_c s (by omega) i (by omega) b (hM2.rd 0 rfl)) (fun w8 m9 => ?_)
  have hM10 := hM2.j m9
  refine xfc 3 21 ((bl s i) ≥ 48) (fun h13p => ?_) (fun h13p => ?_)
  ·
   have hb17 := bl_bd s i
   have hb18 := bl_or s i
   refine xk 1 (next_c s (by omega) i (by omega) b (hM10.rd 0 rfl)) (fun w14 m15 => ?_)
   have hM16 := hM10.j m15
   refine xc 3 ((bl s i) ≤ 57) (fun h19p => ?_) (fun h19p => ?_)
   ·
    have hb28 := bl_bd s i
    have hb29 := bl_or s i
    refine xk 7 (next_c s (by omega) i (by omega) b (hM16.rd 0 rfl)) (fun w25 m26 => ?_)
    have hM27 := hM16.j m26
    refine xsub 0 .u8 (bl s i) 48 ((bl s i) - 48) (IntWalk.u8_in _ (by omega)) ?_
    refine xcv 0 .u8 .i64 ((bl s i) - 48) ((bl s i) - 48) (IntWalk.i64_in _ (by omega)) ?_
    refine xa 0 0 ((bl s i) - 48) ((bl s i) - 48) ?_
    refine xv 6 (c_load pE3 (hM27.rd 0 rfl) (cel_obj b 1) rfl) ?_
    refine xa 0 ((i : Nat) : Int) 1 (((i + 1) : Nat) : Int) ?_
    refine xst 2 (c_store (E := 3) (u := iN (i + 1)) (by kernel_rfl) hM27 0 rfl (cel_obj b 1) (by decide) rfl rfl) (fun w30 hM32 => ?_)
    refine xv 9 (c_load pE3 (hM32.rd 0 rfl) (cel_obj b 1) rfl) ?_
    refine xa 1 ((i : Nat) : Int) 2 (((i + 2) : Nat) : Int) ?_
    refine xfc 2 16 ((((i + 1) : Nat) : Int) < (((i + 2) : Nat) : Int)) (fun h42p => ?_) (fun h42p => ?_)
    ·
     have hb46 := bl_bd s (i + 1)
     have hb47 := bl_or s (i + 1)
     refine xk 1 (next_c s (by omega) (i + 1) (by omega) b (hM32.rd 0 rfl)) (fun w43 m44 => ?_)
     have hM45 := hM32.j m44
     refine xfc 3 21 ((bl s (i + 1)) ≥ 48) (fun h48p => ?_) (fun h48p => ?_)
     ·
      have hb52 := bl_bd s (i + 1)
      have hb53 := bl_or s (i + 1)
      refine xk 1 (next_c s (by omega) (i + 1) (by omega) b (hM45.rd 0 rfl)) (fun w49 m50 => ?_)
      have hM51 := hM45.j m50
      refine xc 3 ((bl s (i + 1)) ≤ 57) (fun h54p => ?_) (fun h54p => ?_)
      ·
       refine xt 5 10 ((bl s i) - 48) (10 * ((bl s i) - 48)) ?_
       have hb61 := bl_bd s (i + 1)
       have hb62 := bl_or s (i + 1)
       refine xk 1 (next_c s (by omega) (i + 1) (by omega) b (hM51.rd 0 rfl)) (fun w58 m59 => ?_)
       have hM60 := hM51.j m59
       refine xsub 0 .u8 (bl s (i + 1)) 48 ((bl s (i + 1)) - 48) (IntWalk.u8_in _ (by omega)) ?_
       refine xcv 0 .u8 .i64 ((bl s (i + 1)) - 48) ((bl s (i + 1)) - 48) (IntWalk.i64_in _ (by omega)) ?_
       refine xa 0 (10 * ((bl s i) - 48)) ((bl s (i + 1)) - 48) ((10 * ((bl s i) - 48)) + ((bl s (i + 1)) - 48)) ?_
       refine xv 6 (c_load pE3 (hM60.rd 0 rfl) (cel_obj b 1) rfl) ?_
       refine xa 0 (((i + 1) : Nat) : Int) 1 ((((i + 1) + 1) : Nat) : Int) ?_
       refine xst 2 (c_store (E := 3) (u := iN ((i + 1) + 1)) (by kernel_rfl) hM60 0 rfl (cel_obj b 1) (by decide) rfl rfl) (fun w63 hM65 => ?_)
       refine xv 9 (c_load pE3 (hM65.rd 0 rfl) (cel_obj b 1) rfl) ?_
       refine xa 1 ((i : Nat) : Int) 2 (((i + 2) : Nat) : Int) ?_
       refine xfc 2 16 (((((i + 1) + 1) : Nat) : Int) < (((i + 2) : Nat) : Int)) (fun h75p => ?_) (fun h75p => ?_)
       ·
        omega
       ·
        refine xv 18 (c_load pE3 (hM65.rd 0 rfl) (cel_obj b 1) rfl) ?_
        refine xc 3 (((((i + 1) + 1) : Nat) : Int) = ((i : Nat) : Int)) (fun h77p => ?_) (fun h77p => ?_)
        ·
         omega
        ·
         refine xr0 6 (v := .int .i64 ((10 * ((bl s i) - 48)) + ((bl s (i + 1)) - 48))) Tryz.func106 ?_
         rw [hR]
         exact .inl ⟨_, _, small_two (by omega) (by omega), rfl, rfl, hM65⟩
      ·
       refine xv 7 (c_load pE3 (hM51.rd 0 rfl) (cel_obj b 1) rfl) ?_
       refine xc 3 ((((i + 1) : Nat) : Int) = ((i : Nat) : Int)) (fun h56p => ?_) (fun h56p => ?_)
       ·
        omega
       ·
        refine xr0 6 (v := .int .i64 ((bl s i) - 48)) Tryz.func106 ?_
        rw [hR]
        exact .inl ⟨_, _, small_one (by omega) (by omega), rfl, rfl, hM51⟩
     ·
      refine xv 13 (c_load pE3 (hM45.rd 0 rfl) (cel_obj b 1) rfl) ?_
      refine xc 3 ((((i + 1) : Nat) : Int) = ((i : Nat) : Int)) (fun h79p => ?_) (fun h79p => ?_)
      ·
       omega
      ·
       refine xr0 6 (v := .int .i64 ((bl s i) - 48)) Tryz.func106 ?_
       rw [hR]
       exact .inl ⟨_, _, small_one (by omega) (by omega), rfl, rfl, hM45⟩
    ·
     omega
   ·
    refine xv 7 (c_load pE3 (hM16.rd 0 rfl) (cel_obj b 1) rfl) ?_
    refine xc 3 (((i : Nat) : Int) = ((i : Nat) : Int)) (fun h21p => ?_) (fun h21p => ?_)
    ·
     refine xkd 2 Tryz.func106 (fail_c s i b (hM16.rd 0 rfl)) (fun w22 m23 => ?_)
     have hM24 := (hM16.j m23).none
     rw [hR]
     exact .inr ⟨_, small_none (by omega), rfl, hM24⟩
    ·
     omega
  ·
   refine xv 13 (c_load pE3 (hM10.rd 0 rfl) (cel_obj b 1) rfl) ?_
   refine xc 3 (((i : Nat) : Int) = ((i : Nat) : Int)) (fun h81p => ?_) (fun h81p => ?_)
   ·
    refine xkd 2 Tryz.func106 (fail_c s i b (hM10.rd 0 rfl)) (fun w82 m83 => ?_)
    have hM84 := (hM10.j m83).none
    rw [hR]
    exact .inr ⟨_, small_none (by omega), rfl, hM84⟩
   ·
    omega
 ·
  omega


end Go.Proofs.YthpodbngljfdmaaGreatDoor

