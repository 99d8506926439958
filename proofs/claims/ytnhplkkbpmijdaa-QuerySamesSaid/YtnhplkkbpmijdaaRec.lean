/-
  Slices of structs: lists of records, told by the cells of each. Equality of structs of plain fields. No condition beyond those that each theorem names.
-/
import Derived.Test.YtnhplkkbpmijdaaLend
import Derived.Laws.StructEq
namespace Go.Gw
set_option linter.unusedVariables false
set_option linter.unusedSimpArgs false
open Go.RowKit

/-- the cells of a list of records -/
def recs {α : Type} (f : α → List Value) (l : List α) : List Value := l.flatMap f
section
variable {α : Type} {f : α → List Value} {k : Nat}
theorem recs_nil : recs f [] = [] := rfl
theorem recs_one (x : α) : recs f [x] = f x := by simp [recs]
theorem recs_app (l m : List α) : recs f l ++ recs f m = recs f (l ++ m) := by simp [recs]
theorem recs_len (hf : ∀ x, (f x).length = k) (l : List α) : (recs f l).length = l.length * k := by
  induction l with
  | nil => simp [recs]
  | cons x l ih =>
    have : recs f (x :: l) = f x ++ recs f l := by simp [recs]
    rw [this, List.length_append, hf, ih, List.length_cons, Nat.succ_mul, Nat.add_comm]
theorem recs_take (hf : ∀ x, (f x).length = k) (l : List α) (m : Nat) : (recs f l).take (m * k) = recs f (l.take m) := by
  induction l generalizing m with
  | nil => simp [recs]
  | cons x l ih =>
    have e : recs f (x :: l) = f x ++ recs f l := by simp [recs]
    cases m with
    | zero => simp [recs]
    | succ m =>
      have e2 : recs f ((x :: l).take (m + 1)) = f x ++ recs f (l.take m) := by simp [recs]
      rw [e, e2, List.take_append, List.take_of_length_le (by rw [hf]; have := Nat.le_mul_of_pos_left k (Nat.succ_pos m); omega), hf, Nat.succ_mul, Nat.add_sub_cancel, ih]
theorem recs_drop (hf : ∀ x, (f x).length = k) (l : List α) (m : Nat) : (recs f l).drop (m * k) = recs f (l.drop m) := by
  induction l generalizing m with
  | nil => simp [recs]
  | cons x l ih =>
    have e : recs f (x :: l) = f x ++ recs f l := by simp [recs]
    cases m with
    | zero => simp
    | succ m =>
      have e2 : (x :: l).drop (m + 1) = l.drop m := rfl
      rw [e, e2, List.drop_append, List.drop_of_length_le (by rw [hf]; have := Nat.le_mul_of_pos_left k (Nat.succ_pos m); omega), hf, Nat.succ_mul, Nat.add_sub_cancel, ih]; simp
theorem recs_at (hf : ∀ x, (f x).length = k) {l : List α} {j i : Nat} (d : α) (hj : j < l.length) {u : Value} (hi : (f (l.getD j d))[i]? = some u) : (recs f l)[j * k + i]? = some u := by
  have hi' : i < k := by have := (List.getElem?_eq_some_iff.1 hi).1; rwa [hf] at this
  have e : l.drop j = l.getD j d :: l.drop (j + 1) := by
    rw [List.drop_eq_getElem_cons hj, List.getD_eq_getElem?_getD, List.getElem?_eq_getElem hj]; rfl
  have h1 : ((recs f l).drop (j * k))[i]? = some u := by
    rw [recs_drop hf, e]
    have : recs f (l.getD j d :: l.drop (j + 1)) = f (l.getD j d) ++ recs f (l.drop (j + 1)) := by simp [recs]
    rw [this, List.getElem?_append_left (by rw [hf]; exact hi')]
    exact hi
  rwa [List.getElem?_drop] at h1
theorem recs_ones (h : ∀ x, ∀ u ∈ f x, u.oneCell' = true) (l : List α) : ∀ u ∈ recs f l, u.oneCell' = true := by
  intro u hu
  obtain ⟨x, _, hx⟩ := List.mem_flatMap.1 hu
  exact h x u hx
theorem recs_set (hf : ∀ x, (f x).length = k) {l : List α} {j : Nat} (hj : j < l.length) (x : α) : splice (recs f l) (j * k) (f x) = recs f (l.set j x) := by
  unfold splice
  rw [recs_take hf, hf, ← Nat.succ_mul, recs_drop hf]
  rw [List.set_eq_take_append_cons_drop, if_pos hj]
  simp [recs]
/-- one field of one record is written -/
theorem recs_setf (hf : ∀ x, (f x).length = k) {l : List α} {j i : Nat} (d : α) (hj : j < l.length) (hi : i < k) {u : Value} {y : α} (hy : (f (l.getD j d)).set i u = f y) : (recs f l).set (j * k + i) u = recs f (l.set j y) := by
  have hlen := recs_len hf l
  have hb : j * k + i < (recs f l).length := by
    rw [hlen]
    have : (j + 1) * k ≤ l.length * k := Nat.mul_le_mul_right _ hj
    rw [Nat.succ_mul] at this; omega
  rw [← recs_set hf hj y]
  apply List.ext_getElem?
  intro n
  unfold splice
  rw [hf, List.getElem?_set]
  by_cases h1 : n < j * k
  · rw [if_neg (by omega), List.append_assoc, List.getElem?_append_left (by rw [List.length_take]; omega), List.getElem?_take_of_lt h1]
  · by_cases h2 : n < j * k + k
    · rw [List.append_assoc, List.getElem?_append_right (by rw [List.length_take]; omega), List.getElem?_append_left (by rw [List.length_take, hf]; omega), List.length_take, Nat.min_eq_left (by omega), ← hy, List.getElem?_set]
      by_cases h3 : j * k + i = n
      · rw [if_pos h3, if_pos hb, if_pos (by omega), if_pos (by rw [hf]; omega)]
      · rw [if_neg h3, if_neg (by omega)]
        have hg : ∃ v, (f (l.getD j d))[n - j * k]? = some v := ⟨_, List.getElem?_eq_getElem (by rw [hf]; omega)⟩
        obtain ⟨v, hv⟩ := hg
        have := recs_at hf d hj hv
        rw [show j * k + (n - j * k) = n by omega] at this
        rw [this, hv]
    · rw [if_neg (by omega), List.getElem?_append_right (by rw [List.length_append, List.length_take, hf]; omega), List.getElem?_drop]
      congr 1
      rw [List.length_append, List.length_take, hf]; omega
end

/-! ### equal structs -/
/-- structs of plain fields: are they alike? -/
def flatEq (P : Program) (xs ys : List Value) : List Field → Option Bool
  | [] => some true
  | f :: fs => match decide (f.name = "_"), P.underlying f.type, xs[f.offset]?, ys[f.offset]?, flatEq P xs ys fs with
    | false, some (.int _), some (.int k a), some (.int k' b), some r => if k = k' then some ((a == b) && r) else none
    | false, some .bool, some (.bool a), some (.bool b), some r => some ((a == b) && r)
    | false, some .string, some (.string a), some (.string b), some r => some ((a.toList == b.toList) && r)
    | _, _, _, _, _ => none
section
variable {P : Program} {w : World}
theorem part_plain {t : TypeId} (hE : Plain P t) {cs : Array Value} {off : Nat} {v : Value} (h : cs.toList[off]? = some v) : (part t cs off).run P w = .ok v w := by
  have h' : cs[off]? = some v := by simpa using h
  unfold part
  rw [Sem.run_bind, plain_agg hE]
  simp only [Result.andThen_ok, Bool.false_eq_true, if_false, h']
  rfl
theorem flatEq_run (d : Nat) (xs ys : Array Value) : ∀ (fs : List Field) (r : Bool), flatEq P xs.toList ys.toList fs = some r → (Op.eqFields (d + 1) xs ys fs).run P w = .ok r w
  | [], r, h => by simp only [flatEq, Option.some.injEq] at h; subst h; simp [Op.eqFields]
  | f :: fs, r, h => by
    have ints : ∀ {d : TypeDesc}, P.underlying f.type = some d → (∀ fs, d ≠ .struct fs) → (∀ m e, d ≠ .array m e) → Plain P f.type := fun h a b => ⟨_, h, a, b⟩
    unfold flatEq at h
    split at h
    · rename_i hn ht hx hy hr
      have hn' : f.name ≠ "_" := by simpa using hn
      split at h
      case isFalse => cases h
      rename_i hk
      subst hk
      simp only [Option.some.injEq] at h
      subst h
      have hp := ints ht (fun _ => by simp) (fun _ _ => by simp)
      have ih := flatEq_run d xs ys fs _ hr
      unfold Op.eqFields
      rw [if_pos hn']
      simp only [Sem.run_bind, part_plain hp hx, part_plain hp hy, Result.andThen_ok]
      rename_i k a b r
      have e : (Op.equalIn (d + 1) f.type (.int k a) (.int k b)).run P w = .ok (a == b) w := by simp [Op.equalIn, run_underlying ht]
      rw [e]
      simp only [Result.andThen_ok]
      cases hab : (a == b) <;> simp [ih]
    · rename_i hn ht hx hy hr
      have hn' : f.name ≠ "_" := by simpa using hn
      simp only [Option.some.injEq] at h
      subst h
      have hp := ints ht (fun _ => by simp) (fun _ _ => by simp)
      have ih := flatEq_run d xs ys fs _ hr
      unfold Op.eqFields
      rw [if_pos hn']
      simp only [Sem.run_bind, part_plain hp hx, part_plain hp hy, Result.andThen_ok]
      rename_i a b r
      rw [run_equalIn_bool w d f.type a b ht]
      simp only [Result.andThen_ok]
      cases hab : (a == b) <;> simp [ih]
    · rename_i hn ht hx hy hr
      have hn' : f.name ≠ "_" := by simpa using hn
      simp only [Option.some.injEq] at h
      subst h
      have hp := ints ht (fun _ => by simp) (fun _ _ => by simp)
      have ih := flatEq_run d xs ys fs _ hr
      unfold Op.eqFields
      rw [if_pos hn']
      simp only [Sem.run_bind, part_plain hp hx, part_plain hp hy, Result.andThen_ok]
      rename_i a b r
      rw [run_equalIn_string w d f.type a b ht]
      simp only [Result.andThen_ok]
      cases hab : (a.toList == b.toList) <;> simp [ih]
    · cases h

structure EqT (P : Program) (t : TypeId) : Prop where
  under : P.underlying t = some (.struct (P.fieldsOf t))
  held : P.stoodInHeld t = false
  guard : P.eqGuardType P.depth t = false

theorem f_ageq {t : TypeId} (hT : EqT P t) {xs ys : List Value} {r b : Bool} (h : flatEq P xs ys (P.fieldsOf t).toList = some r) (e : r = b) :
    P.eqGuardType P.depth t = false ∧ (binOp .eql t (.agg xs.toArray) (.agg ys.toArray)).run P w = .ok (.bool b) w := by
  subst e
  refine ⟨hT.guard, ?_⟩
  rw [run_eql_struct, run_equalIn_struct w 9999 t _ _ hT.under hT.held, flatEq_run 9998 _ _ _ r (by simpa using h)]
  rfl
theorem f_agneq {t : TypeId} (hT : EqT P t) {xs ys : List Value} {r b : Bool} (h : flatEq P xs ys (P.fieldsOf t).toList = some r) (e : (!r) = b) :
    P.eqGuardType P.depth t = false ∧ (binOp .neq t (.agg xs.toArray) (.agg ys.toArray)).run P w = .ok (.bool b) w := by
  subst e
  refine ⟨hT.guard, ?_⟩
  rw [run_neq_struct, run_equalIn_struct w 9999 t _ _ hT.under hT.held, flatEq_run 9998 _ _ _ r (by simpa using h)]
  rfl
theorem sb_beq (a b : List UInt8) : ((sb a).toList == (sb b).toList) = decide (a = b) := by
  rw [sb_toList, sb_toList]
  exact Bool.eq_iff_iff.2 (by simp)

/-! ### records in memory -/
theorem r_loads {α : Type} {f : α → List Value} {l : List α} {E : TypeId} {k : Nat} (hE : Agged P E k) {v : Value} {n : Nat} (h : Rd w k v n (recs f l)) (hf : ∀ x, (f x).length = k) {j : Nat} {p : Addr} (hp : At v k j p) (hj : j < l.length) (d : α) :
    (Instr.loadAt E (.pointer (some p))).run P w = .ok (.agg (f (l.getD j d)).toArray) w :=
  c_loads hE h hp.cel (hf _) (fun i u hu => recs_at hf d hj hu)
theorem r_stores {α : Type} {f : α → List Value} {l : List α} {E : TypeId} {k : Nat} {w0 : World} {S : List Nat} {L : List Row} (hE : Agged P E k) (hM : Mem S w0 w L) (i : Nat) {v : Value} {n : Nat} (hr : L[i]? = some ⟨E, k, v, n, recs f l⟩) (hf : ∀ x, (f x).length = k)
    {j : Nat} {p : Addr} (hp : At v k j p) (hj : j < l.length) (x : α) (h1 : ∀ u ∈ f x, u.oneCell' = true) :
    ∃ w', (Instr.storeAt E (.pointer (some p)) (.agg (f x).toArray)).run P w = .ok () w' ∧ Mem S w0 w' (L.set i ⟨E, k, v, n, recs f (l.set j x)⟩) := by
  have hn : n * k = l.length * k := by have := (hM.get i hr).1; rw [recs_len hf] at this; exact this.symm
  obtain ⟨w', h2, h3⟩ := c_stores (ys := f x) hE hM i hr hp.cel (hf x) (by rw [hn, ← Nat.succ_mul]; exact Nat.mul_le_mul_right _ hj) h1
  rw [recs_set hf hj] at h3
  exact ⟨w', h2, h3⟩
theorem r_storef {α : Type} {f : α → List Value} {l : List α} {y : α} {E T : TypeId} {k : Nat} {w0 : World} {S : List Nat} {L : List Row} {u : Value} (hE1 : P.cellsOf E = 1) (hM : Mem S w0 w L) (i : Nat) {v : Value} {n : Nat} (hr : L[i]? = some ⟨T, k, v, n, recs f l⟩) (hf : ∀ x, (f x).length = k)
    {j : Nat} {p : Addr} (hp : At v k j p) (d : Nat) (hd : d < k) (hj : j < l.length) (z : α) (hy : (f (l.getD j z)).set d u = f y) (hu : u.oneCell' = true) (hc : u.cells = #[u]) :
    ∃ w', (Instr.storeAt E (.pointer (some (p.add d))) u).run P w = .ok () w' ∧ Mem S w0 w' (L.set i ⟨T, k, v, n, recs f (l.set j y)⟩) := by
  have hn : n * k = l.length * k := by have := (hM.get i hr).1; rw [recs_len hf] at this; exact this.symm
  have hlt : j * k + d < n * k := by
    rw [hn]; have : (j + 1) * k ≤ l.length * k := Nat.mul_le_mul_right _ hj
    rw [Nat.succ_mul] at this; omega
  obtain ⟨w', h2, h3⟩ := c_store (u := u) hE1 hM i hr (hp.cel.add d) hlt hu hc
  rw [recs_setf hf z hj hd hy] at h3
  exact ⟨w', h2, h3⟩
/-- a row of the call's own is cut to its first m elements -/
theorem Mem.cutrow {w0 : World} {S : List Nat} {L : List Row} (h : Mem S w0 w L) (i : Nat) {r : Row} (hr : L[i]? = some r) (m : Nat) (hm : m ≤ r.n) : Mem S w0 w (L.set i ⟨r.E, r.k, cut r.v m, m, r.xs.take (m * r.k)⟩) := by
  have ho := h.get i hr
  refine h.grow i hr (.inl rfl) ⟨rfl, rfl, rfl, Nat.le_refl _, fun _ _ _ => rfl⟩ _ _ _ ?_ (fun b hb => .inl ?_)
  · have hmk : m * r.k ≤ r.n * r.k := Nat.mul_le_mul_right _ hm
    refine ⟨by rw [List.length_take, ho.1]; omega, ?_⟩
    rcases ho.2 with ⟨e1, e2⟩ | ⟨g, cap, cur, e, hb, hg, hn, hc, hsz, ht⟩
    · left
      have hm0 : m = 0 := by omega
      subst hm0
      rw [e1]
      exact ⟨rfl, rfl⟩
    · right
      refine ⟨g, cap, cur, by rw [e]; rfl, hb, hg, by omega, hc, hsz, ?_⟩
      rw [← ht, List.take_take, Nat.min_eq_left hmk]
  · cases hv : r.v with
    | slice a n c => rw [hv] at hb; cases a <;> exact hb
    | _ => rw [hv] at hb; exact hb
end
end Go.Gw
