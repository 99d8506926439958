/-
  Queries by the number of their parts alone: for the whole statement of likeness. No condition beyond those that each theorem names.
-/
import Derived.Test.YtnhplkkbpmijdaaQryP
namespace Go.QryP
open Go.Gw Go.UtfP Go.TokP
set_option linter.unusedVariables false
set_option linter.unusedSimpArgs false
theorem size_pos (q : Q) : 1 ≤ sizeQ q := by cases q; rw [sizeQ_mk]; omega
theorem size_lt {a b c : Nat} (h : a = b) (k : c < a) : c < b := h ▸ k
theorem size_len : ∀ (l : List Q), l.length ≤ sizeL l
  | [] => Nat.zero_le _
  | q :: l => by have := size_len l; have := size_pos q; rw [List.length_cons, sizeL]; omega
theorem size_take (l : List Q) (i : Nat) : sizeL (l.take i) ≤ sizeL l := by
  have := sizeL_app (l.take i) (l.drop i)
  rw [List.take_append_drop] at this; omega
theorem size_kid {l : List Q} {i : Nat} (h : i < l.length) : sizeQ (l.getD i q0) ≤ sizeL l := by
  have h1 := size_step h
  have h2 := size_take l (i + 1)
  omega
theorem few_capL : ∀ (l : List Q) (n : Nat), (∀ q ∈ l, ∀ n, n ≤ 5000 → fewQ q n ≤ 5001) → n ≤ 5001 → fewL l n ≤ 5001
  | [], n, _, h => by rw [fewL]; exact h
  | q :: l, n, h, hn => by
    rw [fewL]
    split
    · rename_i g
      exact few_capL l _ (fun x hx => h x (List.mem_cons_of_mem _ hx)) (h q (List.mem_cons_self ..) n g)
    · exact hn
theorem few_capN : ∀ (m : Nat) (q : Q), sizeQ q ≤ m → ∀ n, n ≤ 5000 → fewQ q n ≤ 5001
  | 0, q, h => by have := size_pos q; omega
  | m + 1, .mk g l, h => fun n hn => by
    rw [sizeQ_mk] at h
    rw [fewQ_mk]
    refine few_capL l (n + 1) (fun q hq n hn => ?_) (by omega)
    obtain ⟨j, hj, rfl⟩ := List.getElem_of_mem hq
    have h1 := size_kid (l := l) hj
    rw [List.getD_eq_getElem?_getD, List.getElem?_eq_getElem hj] at h1
    exact few_capN m l[j] (by have h2 : sizeQ l[j] ≤ sizeL l := h1; omega) n hn
theorem few_cap (q : Q) {n : Nat} (h : n ≤ 5000) : fewQ q n ≤ 5001 := few_capN _ q (Nat.le_refl _) n h
theorem few_exL : ∀ (l : List Q) (n : Nat), (∀ q ∈ l, ∀ n, fewQ q n ≤ 5000 → fewQ q n = n + sizeQ q) → fewL l n ≤ 5000 → fewL l n = n + sizeL l
  | [], n, _, h => by rw [fewL, sizeL]; omega
  | q :: l, n, h, hn => by
    rw [fewL] at hn ⊢
    split at hn
    · rename_i g
      rw [if_pos g, sizeL]
      have h2 := few_exL l (fewQ q n) (fun x hx => h x (List.mem_cons_of_mem _ hx)) hn
      have h3 := (few_bdL l (fewQ q n) (fun x _ => few_bd x)).1
      have h4 := h q (List.mem_cons_self ..) n (by omega)
      omega
    · omega
theorem few_exN : ∀ (m : Nat) (q : Q), sizeQ q ≤ m → ∀ n, fewQ q n ≤ 5000 → fewQ q n = n + sizeQ q
  | 0, q, h => by have := size_pos q; omega
  | m + 1, .mk g l, h => fun n hn => by
    rw [sizeQ_mk] at h
    rw [fewQ_mk] at hn ⊢
    have := few_exL l (n + 1) (fun q hq n hn => by
      obtain ⟨j, hj, rfl⟩ := List.getElem_of_mem hq
      have h1 := size_kid (l := l) hj
      rw [List.getD_eq_getElem?_getD, List.getElem?_eq_getElem hj] at h1
      exact few_exN m l[j] (by have h2 : sizeQ l[j] ≤ sizeL l := h1; omega) n hn) hn
    rw [sizeQ_mk]; omega
/-- few parts are few indeed -/
theorem few_size {q : Q} (h : fewQ q 0 ≤ 5000) : sizeQ q ≤ 5000 := by
  have := few_exN _ q (Nat.le_refl _) 0 h; omega
end Go.QryP
