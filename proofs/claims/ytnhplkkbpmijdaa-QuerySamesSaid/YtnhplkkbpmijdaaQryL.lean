/-
  The laws of queries, over trees. No condition beyond those that each theorem names.
-/
import Derived.Test.YtnhplkkbpmijdaaQryP
namespace Go.QryP
open Go.Gw Go.UtfP Go.TokP
set_option linter.unusedVariables false
set_option linter.unusedSimpArgs false
def foxH : Hd := ⟨1, [116], [102, 111, 120], 0, 0, 0, 0⟩
def rngH : Hd := ⟨6, [110], [], 0, 0, 0, 5⟩
abbrev opH (k : Int) : Hd := ⟨k, [], [], 0, 0, 0, 0⟩
def oneQ : Q := .mk (opH 7) [.mk foxH [], .mk (opH 9) [.mk rngH []]]
theorem RdQ.nil (w : World) (g : Hd) : RdQ w (.mk g []) (.slice none 0 0) := .mk g [] _ [] (Rd.nil w 8) rfl (fun j hj => absurd hj (Nat.not_lt_zero _)) (fun j hj => absurd hj (Nat.not_lt_zero _))
theorem QT.nil {T : List Row} {E : TypeId} (h : (⟨E, 8, .slice none 0 0, 0, []⟩ : Row) ∈ T) (g : Hd) : QT T (.mk g []) (.slice none 0 0) := .mk g [] _ E [] h rfl (fun j hj => absurd hj (Nat.not_lt_zero _)) (fun j hj => absurd hj (Nat.not_lt_zero _))
theorem QT.one {T : List Row} {E : TypeId} {v u : Value} {g k : Hd} {l : List Q} (h : (⟨E, 8, v, 1, recs qnC [⟨k, u⟩]⟩ : Row) ∈ T) (hq : QT T (.mk k l) u) : QT T (.mk g [.mk k l]) v := by
  refine .mk g _ v E [⟨k, u⟩] h rfl (fun j hj => ?_) (fun j hj => ?_)
  · match j, hj with | 0, _ => rfl
  · match j, hj with | 0, _ => exact hq
theorem QT.two {T : List Row} {E : TypeId} {v u u2 : Value} {g k k2 : Hd} {l l2 : List Q} (h : (⟨E, 8, v, 2, recs qnC [⟨k, u⟩, ⟨k2, u2⟩]⟩ : Row) ∈ T) (hq : QT T (.mk k l) u) (hq2 : QT T (.mk k2 l2) u2) : QT T (.mk g [.mk k l, .mk k2 l2]) v := by
  refine .mk g _ v E [⟨k, u⟩, ⟨k2, u2⟩] h rfl (fun j hj => ?_) (fun j hj => ?_)
  · match j, hj with
    | 0, _ => rfl
    | 1, _ => rfl
  · match j, hj with
    | 0, _ => exact hq
    | 1, _ => exact hq2
theorem RdQ.one1 {w : World} {v u : Value} {k : Hd} {a : Q} (g : Hd) (h : Rd w 8 v 1 (recs qnC [⟨k, u⟩])) (hk : k = a.h) (ha : RdQ w a u) : RdQ w (.mk g [a]) v := by
  refine .mk g _ v [⟨k, u⟩] h rfl (fun j hj => ?_) (fun j hj => ?_)
  · match j, hj with | 0, _ => exact hk
  · match j, hj with | 0, _ => exact ha
theorem RdQ.two2 {w : World} {v u u2 : Value} {k k2 : Hd} {a b : Q} (g : Hd) (h : Rd w 8 v 2 (recs qnC [⟨k, u⟩, ⟨k2, u2⟩])) (hk : k = a.h) (ha : RdQ w a u) (hk2 : k2 = b.h) (hb : RdQ w b u2) : RdQ w (.mk g [a, b]) v := by
  refine .mk g _ v [⟨k, u⟩, ⟨k2, u2⟩] h rfl (fun j hj => ?_) (fun j hj => ?_)
  · match j, hj with
    | 0, _ => exact hk
    | 1, _ => exact hk2
  · match j, hj with
    | 0, _ => exact ha
    | 1, _ => exact hb
theorem RdQ.upd {w : World} {v vr : Value} {M : List QN} {q r : Q} {g : Hd} {i : Nat} (hi : i < q.l.length) (h : Rd w 8 v M.length (recs qnC (M.set i ⟨g, vr⟩))) (h1 : M.length = q.l.length) (h2 : ∀ j, j < q.l.length → (M.getD j qz).h = (q.l.getD j q0).h) (h3 : ∀ j, j < q.l.length → RdQ w (q.l.getD j q0) (M.getD j qz).parts) (hg : g = r.h) (hr : RdQ w r vr) : RdQ w (.mk q.h (q.l.set i r)) v := by
  have g1 : ∀ (j : Nat) (x : QN), (M.set i x).getD j qz = if i = j ∧ j < M.length then x else M.getD j qz := by
    intro j x
    rw [List.getD_eq_getElem?_getD, List.getElem?_set, List.getD_eq_getElem?_getD]
    by_cases e : i = j
    · subst e
      by_cases e2 : i < M.length
      · rw [if_pos rfl, if_pos e2, if_pos ⟨rfl, e2⟩]; rfl
      · omega
    · rw [if_neg e, if_neg (fun z => e z.1)]
  have g2 : ∀ (j : Nat), (q.l.set i r).getD j q0 = if i = j ∧ j < q.l.length then r else q.l.getD j q0 := by
    intro j
    rw [List.getD_eq_getElem?_getD, List.getElem?_set, List.getD_eq_getElem?_getD]
    by_cases e : i = j
    · subst e; rw [if_pos rfl, if_pos hi, if_pos ⟨rfl, hi⟩]; rfl
    · rw [if_neg e, if_neg (fun z => e z.1)]
  refine .mk q.h _ v (M.set i ⟨g, vr⟩) (by rw [List.length_set]; exact h) (by rw [List.length_set, List.length_set]; exact h1) (fun j hj => ?_) (fun j hj => ?_)
  · rw [List.length_set] at hj
    rw [g1, g2]
    by_cases e : i = j
    · subst e; rw [if_pos (show i = i ∧ i < M.length from ⟨rfl, by omega⟩), if_pos (show i = i ∧ i < q.l.length from ⟨rfl, hj⟩)]; exact hg
    · rw [if_neg (fun z => e z.1), if_neg (fun z => e z.1)]; exact h2 j hj
  · rw [List.length_set] at hj
    rw [g1, g2]
    by_cases e : i = j
    · subst e; rw [if_pos (show i = i ∧ i < M.length from ⟨rfl, by omega⟩), if_pos (show i = i ∧ i < q.l.length from ⟨rfl, hj⟩)]; exact hr
    · rw [if_neg (fun z => e z.1), if_neg (fun z => e z.1)]; exact h3 j hj
theorem qnC_one {x : QN} (h : x.parts.oneCell' = true) : ∀ u ∈ qnC x, u.oneCell' = true := by
  intro u hu
  simp only [qnC, List.mem_cons, List.not_mem_nil, or_false] at hu
  rcases hu with rfl | rfl | rfl | rfl | rfl | rfl | rfl | rfl <;> first | rfl | exact h
/-! ### the laws -/
theorem check_iff (q : Q) : checkQ q = 0 ↔ sizeQ q ≤ 64 ∧ deepQ q ≤ 8 ∧ rightQ q = true := by
  unfold checkQ
  split
  · exact ⟨fun z => absurd z (by decide), fun z => by omega⟩
  · split
    · rename_i h1 h2; exact ⟨fun _ => ⟨by omega, by omega, h2⟩, fun _ => rfl⟩
    · rename_i h1 h2; exact ⟨fun z => absurd z (by decide), fun z => absurd z.2.2 h2⟩
theorem node_two (k : Int) (h : k = 7 ∨ k = 8) : nodeP (opH k) 2 = true := by
  rcases h with rfl | rfl <;> decide
theorem check_join (k : Int) (h : k = 7 ∨ k = 8) (a b : Q) : checkQ (.mk (opH k) [a, b]) = 0 ↔ checkQ a = 0 ∧ checkQ b = 0 ∧ sizeQ a + sizeQ b + 1 ≤ 64 ∧ max (deepQ a) (deepQ b) + 1 ≤ 8 := by
  rw [check_iff, check_iff, check_iff, sizeQ_mk, deepQ_mk, rightQ_mk]
  simp only [sizeL, deepL, rightL, List.length_cons, List.length_nil, Nat.zero_add, node_two k h, Bool.and_true, Bool.and_eq_true]
  constructor
  · rintro ⟨h1, h2, h3, h4⟩; exact ⟨⟨by omega, by omega, h3⟩, ⟨by omega, by omega, h4⟩, by omega, by omega⟩
  · rintro ⟨⟨_, _, h3⟩, ⟨_, _, h4⟩, h5, h6⟩; exact ⟨by omega, by omega, h3, h4⟩
theorem check_or (a b : Q) : checkQ (.mk (opH 8) [a, b]) = checkQ (.mk (opH 7) [a, b]) := by
  unfold checkQ
  rw [sizeQ_mk, sizeQ_mk, deepQ_mk, deepQ_mk, rightQ_mk, rightQ_mk]
  simp only [List.length_cons, List.length_nil, Nat.zero_add, node_two 7 (.inl rfl), node_two 8 (.inr rfl)]
theorem check_not (a : Q) : checkQ (.mk (opH 9) [a]) = 0 ↔ checkQ a = 0 ∧ sizeQ a + 1 ≤ 64 ∧ deepQ a + 1 ≤ 8 := by
  have e : nodeP (opH 9) 1 = true := by decide
  rw [check_iff, check_iff, sizeQ_mk, deepQ_mk, rightQ_mk]
  simp only [sizeL, deepL, rightL, List.length_cons, List.length_nil, Nat.zero_add, e, Bool.and_true]
  constructor
  · rintro ⟨h1, h2, h3⟩; exact ⟨⟨by omega, by omega, h3⟩, by omega, by omega⟩
  · rintro ⟨⟨_, _, h3⟩, h5, h6⟩; exact ⟨by omega, by omega, h3⟩
theorem size_two (g : Hd) (a b : Q) : sizeQ (.mk g [a, b]) = sizeQ a + sizeQ b + 1 := by rw [sizeQ_mk]; simp [sizeL]
theorem deep_two (g : Hd) (a b : Q) : deepQ (.mk g [a, b]) = max (deepQ a) (deepQ b) + 1 := by rw [deepQ_mk]; simp [deepL]
theorem size_eq (q : Q) : sizeQ q = sizeL q.l + 1 := by cases q; rw [sizeQ_mk]; rfl
theorem deep_eq (q : Q) : deepQ q = deepL q.l + 1 := by cases q; rw [deepQ_mk]; rfl
theorem right_eq (q : Q) : rightQ q = (rightL q.l && nodeP q.h q.l.length) := by cases q; rw [rightQ_mk]; rfl
theorem bulk_eq (q : Q) : bulkQ q = bulkL q.l + q.h.field.length + q.h.text.length + 1 := by cases q; rw [bulkQ_mk]; rfl
theorem set_split {l : List Q} {i : Nat} (h : i < l.length) (r : Q) : l.set i r = l.take i ++ r :: l.drop (i + 1) ∧ l = l.take i ++ l.getD i q0 :: l.drop (i + 1) := by
  refine ⟨by rw [List.set_eq_take_append_cons_drop, if_pos h], ?_⟩
  have := List.take_append_drop i l
  rw [List.drop_eq_getElem_cons h] at this
  rw [List.getD_eq_getElem?_getD, List.getElem?_eq_getElem h]
  exact this.symm
theorem set_facts {l : List Q} {i : Nat} (h : i < l.length) (r : Q) : sizeL (l.set i r) + sizeQ (l.getD i q0) = sizeL l + sizeQ r ∧ (deepQ r ≤ deepQ (l.getD i q0) → deepL (l.set i r) ≤ deepL l) ∧ (rightL l = true → rightQ r = true → rightL (l.set i r) = true) ∧ bulkL (l.set i r) + bulkQ (l.getD i q0) = bulkL l + bulkQ r ∧ sizeQ (l.getD i q0) ≤ sizeL l ∧ deepQ (l.getD i q0) ≤ deepL l ∧ (rightL l = true → rightQ (l.getD i q0) = true) := by
  obtain ⟨e1, e2⟩ := set_split h r
  have f1 : sizeL (l.set i r) = sizeL (l.take i) + (sizeQ r + sizeL (l.drop (i + 1))) := by rw [e1, sizeL_app, sizeL]
  have f2 : sizeL l = sizeL (l.take i) + (sizeQ (l.getD i q0) + sizeL (l.drop (i + 1))) := by
    have := sizeL_app (l.take i) (l.getD i q0 :: l.drop (i + 1)); rw [← e2, sizeL] at this; exact this
  have f3 : deepL (l.set i r) = max (deepL (l.take i)) (max (deepQ r) (deepL (l.drop (i + 1)))) := by rw [e1, deepL_app, deepL]
  have f4 : deepL l = max (deepL (l.take i)) (max (deepQ (l.getD i q0)) (deepL (l.drop (i + 1)))) := by
    have := deepL_app (l.take i) (l.getD i q0 :: l.drop (i + 1)); rw [← e2, deepL] at this; exact this
  have f5 : rightL (l.set i r) = (rightL (l.take i) && (rightQ r && rightL (l.drop (i + 1)))) := by rw [e1, rightL_app, rightL]
  have f6 : rightL l = (rightL (l.take i) && (rightQ (l.getD i q0) && rightL (l.drop (i + 1)))) := by
    have := rightL_app (l.take i) (l.getD i q0 :: l.drop (i + 1)); rw [← e2, rightL] at this; exact this
  have f7 : bulkL (l.set i r) = bulkL (l.take i) + (bulkQ r + bulkL (l.drop (i + 1))) := by rw [e1, bulkL_app, bulkL]
  have f8 : bulkL l = bulkL (l.take i) + (bulkQ (l.getD i q0) + bulkL (l.drop (i + 1))) := by
    have := bulkL_app (l.take i) (l.getD i q0 :: l.drop (i + 1)); rw [← e2, bulkL] at this; exact this
  refine ⟨by omega, fun z => by omega, fun z1 z2 => ?_, by omega, by omega, by omega, fun z => ?_⟩
  · rw [f6] at z1; simp only [Bool.and_eq_true] at z1
    rw [f5, z1.1, z2, z1.2.2]; rfl
  · rw [f6] at z; simp only [Bool.and_eq_true] at z; exact z.2.1
theorem check_kid {q : Q} {i : Nat} (hc : checkQ q = 0) (h : i < q.l.length) : checkQ (q.l.getD i q0) = 0 := by
  rw [check_iff] at hc ⊢
  obtain ⟨h1, h2, h3⟩ := hc
  have := set_facts h q0
  rw [size_eq] at h1; rw [deep_eq] at h2; rw [right_eq, Bool.and_eq_true] at h3
  exact ⟨by omega, by omega, this.2.2.2.2.2.2 h3.1⟩
theorem check_put {q r : Q} {i : Nat} (hc : checkQ q = 0) (hr : checkQ r = 0) (h : i < q.l.length) (hs : ¬ sizeQ r > sizeQ (q.l.getD i q0)) (hd : ¬ deepQ r > deepQ (q.l.getD i q0)) : checkQ (.mk q.h (q.l.set i r)) = 0 := by
  rw [check_iff] at hc hr ⊢
  obtain ⟨h1, h2, h3⟩ := hc
  have := set_facts h r
  rw [size_eq] at h1; rw [deep_eq] at h2; rw [right_eq, Bool.and_eq_true] at h3
  have h4 := this.2.1 (by omega)
  refine ⟨by rw [sizeQ_mk]; omega, by rw [deepQ_mk]; omega, ?_⟩
  rw [rightQ_mk, List.length_set, this.2.2.1 h3.1 hr.2.2, h3.2]; rfl
theorem same_put {q r : Q} {i : Nat} (h : i < q.l.length) : sameQ (.mk q.h (q.l.set i r)) q = sameQ r (q.l.getD i q0) := by
  rw [same_eq]
  show (decide (q.h = q.h) && sameL (q.l.set i r) q.l) = _
  rw [decide_eq_true rfl, Bool.true_and, same_set r h]
theorem bulk_put {q r : Q} {i : Nat} (h : i < q.l.length) : bulkQ (.mk q.h (q.l.set i r)) ≤ bulkQ q + bulkQ r := by
  have := set_facts h r
  rw [bulkQ_mk, bulk_eq q]; omega
end Go.QryP
namespace Go.QryP
open Go.Gw Go.UtfP Go.TokP
set_option linter.unusedVariables false
set_option linter.unusedSimpArgs false
theorem bulk_two (k : Int) (a b : Q) : bulkQ (.mk (opH k) [a, b]) = bulkQ a + bulkQ b + 1 := by rw [bulkQ_mk]; simp [bulkL]
theorem bulk_one (k : Int) (a : Q) : bulkQ (.mk (opH k) [a]) = bulkQ a + 1 := by rw [bulkQ_mk]; simp [bulkL]
theorem size_one (g : Hd) (a : Q) : sizeQ (.mk g [a]) = sizeQ a + 1 := by rw [sizeQ_mk]; simp [sizeL]
theorem deep_one (g : Hd) (a : Q) : deepQ (.mk g [a]) = deepQ a + 1 := by rw [deepQ_mk]; simp [deepL]
theorem Mem.joinTop {S : List Nat} {w0 w w' : World} {A T : List Row} {r : Row} (h : Mem S w0 w A) (c : Mem [] w w' (r :: T)) : Mem S w0 w' (r :: (A ++ T)) := (h.join c).perm (List.Perm.cons _ List.perm_append_comm)
theorem one_tree {T : List Row} {E : TypeId} {v u : Value} (h5 : (⟨E, 8, v, 2, recs qnC [⟨foxH, .slice none 0 0⟩, ⟨opH 9, u⟩]⟩ : Row) ∈ T) (h3 : (⟨E, 8, u, 1, recs qnC [⟨rngH, .slice none 0 0⟩]⟩ : Row) ∈ T) (h0 : (⟨E, 8, .slice none 0 0, 0, []⟩ : Row) ∈ T) : QT T oneQ v :=
  QT.two h5 (QT.nil h0 _) (QT.one h3 (QT.nil h0 _))
end Go.QryP
