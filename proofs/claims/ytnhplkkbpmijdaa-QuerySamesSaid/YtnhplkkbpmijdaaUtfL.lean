/-
  The plain laws of layer 5. No condition beyond those that each theorem names.
-/
import Derived.Test.YtnhplkkbpmijdaaUtfP
namespace Go.UtfP
open Go.Gw
set_option linter.unusedVariables false
set_option linter.unusedSimpArgs false

theorem fold_idem (c : Int) : fold (fold c) = fold c := by
  unfold fold UpP
  repeat' split
  all_goals omega
theorem fold_ne (c : Int) : (fold (fold c) != fold c) = false := by rw [fold_idem]; exact bne_self_eq_false _
theorem allW_one (c : Int) : allW [c] = whole c := by simp [allW]
theorem encE_whole (c : Int) : (encE [c] == 0) = whole c := by
  unfold encE
  rw [allW_one]
  cases whole c <;> rfl
theorem encE_not (c : Int) : (!((encE [c] == 0) == whole c)) = false := by rw [encE_whole]; simp
theorem fold_whole {c : Int} (h : whole c = true) : whole (fold c) = true := by
  have h := whole_iff.1 h
  apply whole_iff.2
  unfold fold UpP
  repeat' split
  all_goals omega
theorem encE_fold {c : Int} (h : (encE [c] == 0) = true) : (encE [fold c] != 0) = false := by
  rw [encE_whole] at h
  have := fold_whole h
  unfold encE
  rw [allW_one, this]; rfl
theorem fold_bd (c : Int) : (c < 128 → fold c < 128) ∧ (c < 2048 → fold c < 2048) ∧ (c < 65536 → fold c < 65536) := by
  unfold fold UpP
  repeat' split
  all_goals omega
theorem len_one (c : Int) : (one c).length = if c < 128 then 1 else if c < 2048 then 2 else if c < 65536 then 3 else 4 := by
  unfold one
  repeat' split
  all_goals rfl
theorem one_fold (c : Int) : (one (fold c)).length ≤ (one c).length := by
  have h := fold_bd c
  rw [len_one, len_one]
  generalize fold c = d at *
  repeat' split
  all_goals omega
theorem encT_fold {c : Int} (h : (encE [c] == 0) = true) : ¬ (((encT [fold c]).length : Nat) : Int) > (((encT [c]).length : Nat) : Int) := by
  rw [encE_whole] at h
  have h2 := fold_whole h
  unfold encT
  rw [allW_one, allW_one, h, h2]
  simp only [if_true, bytesOf_len, enc, List.flatMap_cons, List.flatMap_nil, List.append_nil]
  have := one_fold c
  omega
theorem letter_whole {c : Int} (h : letter c = true) : whole c = true := by
  have h := letter_iff.1 h
  unfold LetterP at h
  exact whole_iff.2 (by omega)
theorem letter_fold {c : Int} (h : letter c = true) : letter (fold c) = true := by
  have h := letter_iff.1 h
  apply letter_iff.2
  unfold LetterP at h ⊢
  unfold fold UpP
  repeat' split
  all_goals omega

/-! ### the order -/
theorem less_app (p x y : List UInt8) : Op.bytesLess (p ++ x) (p ++ y) = Op.bytesLess x y := by
  induction p with
  | nil => rfl
  | cons a p ih =>
    show (a < a || (a == a && Op.bytesLess (p ++ x) (p ++ y))) = _
    simp [ih, UInt8.lt_irrefl]
theorem u8_lt {x y : Int} (hx : 0 ≤ x ∧ x ≤ 255) (hy : 0 ≤ y ∧ y ≤ 255) : (UInt8.ofNat x.toNat < UInt8.ofNat y.toNat) ↔ x < y := by
  rw [UInt8.lt_iff_toNat_lt, UInt8.toNat_ofNat', UInt8.toNat_ofNat']; omega
theorem u8_eq {x y : Int} (hx : 0 ≤ x ∧ x ≤ 255) (hy : 0 ≤ y ∧ y ≤ 255) : (UInt8.ofNat x.toNat = UInt8.ofNat y.toNat) ↔ x = y := by
  rw [← UInt8.toNat_inj, UInt8.toNat_ofNat', UInt8.toNat_ofNat']; omega
theorem less_cons {x y : Int} (hx : 0 ≤ x ∧ x ≤ 255) (hy : 0 ≤ y ∧ y ≤ 255) (a b : List Int) :
    Op.bytesLess (bytesOf (x :: a)) (bytesOf (y :: b)) = (decide (x < y) || (decide (x = y) && Op.bytesLess (bytesOf a) (bytesOf b))) := by
  show (decide (UInt8.ofNat x.toNat < UInt8.ofNat y.toNat) || (UInt8.ofNat x.toNat == UInt8.ofNat y.toNat && Op.bytesLess (bytesOf a) (bytesOf b))) = _
  have e1 : decide (UInt8.ofNat x.toNat < UInt8.ofNat y.toNat) = decide (x < y) := decide_eq_decide.2 (u8_lt hx hy)
  have e2 : (UInt8.ofNat x.toNat == UInt8.ofNat y.toNat) = decide (x = y) := by
    rw [Bool.eq_iff_iff]; simp only [beq_iff_eq, decide_eq_true_eq]; exact u8_eq hx hy
  rw [e1, e2]
theorem less_lt {x y : Int} (hx : 0 ≤ x ∧ x ≤ 255) (hy : 0 ≤ y ∧ y ≤ 255) (h : x < y) (a b : List Int) : Op.bytesLess (bytesOf (x :: a)) (bytesOf (y :: b)) = true := by
  rw [less_cons hx hy]; simp [h]
theorem less_gt {x y : Int} (hx : 0 ≤ x ∧ x ≤ 255) (hy : 0 ≤ y ∧ y ≤ 255) (h : y < x) (a b : List Int) : Op.bytesLess (bytesOf (x :: a)) (bytesOf (y :: b)) = false := by
  rw [less_cons hx hy]
  have h1 : ¬ x < y := by omega
  have h2 : ¬ x = y := by omega
  simp [h1, h2]
theorem less_eq {x y : Int} (hx : 0 ≤ x ∧ x ≤ 255) (h : x = y) (a b : List Int) : Op.bytesLess (bytesOf (x :: a)) (bytesOf (y :: b)) = Op.bytesLess (bytesOf a) (bytesOf b) := by
  subst h
  rw [less_cons hx hx]
  simp
theorem less_eq2 {x y : Int} {a b : List Int} (hx : 0 ≤ x ∧ x ≤ 255) (h : x = y) (k : Op.bytesLess (bytesOf a) (bytesOf b) = true ∧ Op.bytesLess (bytesOf b) (bytesOf a) = false) :
    Op.bytesLess (bytesOf (x :: a)) (bytesOf (y :: b)) = true ∧ Op.bytesLess (bytesOf (y :: b)) (bytesOf (x :: a)) = false := by
  subst h
  rw [less_eq hx rfl, less_eq hx rfl]
  exact k
/-- the first byte -/
theorem less_one {c d : Int} (hc : whole c = true) (hd : whole d = true) (h : c < d) (a b : List Int) :
    Op.bytesLess (bytesOf (one c ++ a)) (bytesOf (one d ++ b)) = true ∧ Op.bytesLess (bytesOf (one d ++ b)) (bytesOf (one c ++ a)) = false := by
  have hc := whole_iff.1 hc
  have hd := whole_iff.1 hd
  by_cases d1 : d < 128
  · rw [one_one (show c < 128 by omega), one_one d1]
    exact ⟨less_lt (by omega) (by omega) (by omega) _ _, less_gt (by omega) (by omega) (by omega) _ _⟩
  by_cases d2 : d < 2048
  · rw [one_two d1 d2]
    by_cases c1 : c < 128
    · rw [one_one c1]
      exact ⟨less_lt (by omega) (by omega) (by omega) _ _, less_gt (by omega) (by omega) (by omega) _ _⟩
    · rw [one_two c1 (by omega)]
      simp only [List.cons_append, List.nil_append]
      by_cases q : c / 64 = d / 64
      · refine less_eq2 (by omega) (by omega) ?_
        exact ⟨less_lt (by omega) (by omega) (by omega) _ _, less_gt (by omega) (by omega) (by omega) _ _⟩
      · exact ⟨less_lt (by omega) (by omega) (by omega) _ _, less_gt (by omega) (by omega) (by omega) _ _⟩
  by_cases d3 : d < 65536
  · rw [one_three d2 d3]
    by_cases c1 : c < 128
    · rw [one_one c1]
      exact ⟨less_lt (by omega) (by omega) (by omega) _ _, less_gt (by omega) (by omega) (by omega) _ _⟩
    by_cases c2 : c < 2048
    · rw [one_two c1 c2]
      exact ⟨less_lt (by omega) (by omega) (by omega) _ _, less_gt (by omega) (by omega) (by omega) _ _⟩
    · rw [one_three c2 (by omega)]
      simp only [List.cons_append, List.nil_append]
      by_cases q : c / 4096 = d / 4096
      · refine less_eq2 (by omega) (by omega) ?_
        by_cases q2 : c / 64 = d / 64
        · refine less_eq2 (by omega) (by omega) ?_
          exact ⟨less_lt (by omega) (by omega) (by omega) _ _, less_gt (by omega) (by omega) (by omega) _ _⟩
        · exact ⟨less_lt (by omega) (by omega) (by omega) _ _, less_gt (by omega) (by omega) (by omega) _ _⟩
      · exact ⟨less_lt (by omega) (by omega) (by omega) _ _, less_gt (by omega) (by omega) (by omega) _ _⟩
  · rw [one_four d3]
    by_cases c1 : c < 128
    · rw [one_one c1]
      exact ⟨less_lt (by omega) (by omega) (by omega) _ _, less_gt (by omega) (by omega) (by omega) _ _⟩
    by_cases c2 : c < 2048
    · rw [one_two c1 c2]
      exact ⟨less_lt (by omega) (by omega) (by omega) _ _, less_gt (by omega) (by omega) (by omega) _ _⟩
    by_cases c3 : c < 65536
    · rw [one_three c2 c3]
      exact ⟨less_lt (by omega) (by omega) (by omega) _ _, less_gt (by omega) (by omega) (by omega) _ _⟩
    · rw [one_four c3]
      simp only [List.cons_append, List.nil_append]
      by_cases q : c / 262144 = d / 262144
      · refine less_eq2 (by omega) (by omega) ?_
        by_cases q2 : c / 4096 = d / 4096
        · refine less_eq2 (by omega) (by omega) ?_
          by_cases q3 : c / 64 = d / 64
          · refine less_eq2 (by omega) (by omega) ?_
            exact ⟨less_lt (by omega) (by omega) (by omega) _ _, less_gt (by omega) (by omega) (by omega) _ _⟩
          · exact ⟨less_lt (by omega) (by omega) (by omega) _ _, less_gt (by omega) (by omega) (by omega) _ _⟩
        · exact ⟨less_lt (by omega) (by omega) (by omega) _ _, less_gt (by omega) (by omega) (by omega) _ _⟩
      · exact ⟨less_lt (by omega) (by omega) (by omega) _ _, less_gt (by omega) (by omega) (by omega) _ _⟩
theorem getD_mem {l : List Int} {i : Nat} (h : i < l.length) : l.getD i 0 ∈ l := by
  rw [List.getD_eq_getElem?_getD, List.getElem?_eq_getElem h]; exact List.getElem_mem h
theorem enc_split {l : List Int} {i : Nat} (h : i < l.length) : enc l = enc (l.take i) ++ (one (l.getD i 0) ++ enc (l.drop (i + 1))) := by
  have e : l = l.take i ++ (l.getD i 0 :: l.drop (i + 1)) := by
    conv => lhs; rw [← List.take_append_drop i l, List.drop_eq_getElem_cons h]
    simp [List.getD_eq_getElem?_getD, List.getElem?_eq_getElem h]
  conv => lhs; rw [e, enc_app, enc_cons]
theorem one_ne (c : Int) : one c ≠ [] := by
  intro e
  have := one_len c
  rw [e] at this; simp at this
theorem take_same {a b : List Int} {i : Nat} (ha : i ≤ a.length) (hb : i ≤ b.length) (h : ∀ j, j < i → a.getD j 0 = b.getD j 0) : a.take i = b.take i := by
  apply List.ext_getElem (by rw [List.length_take, List.length_take]; omega)
  intro j h1 h2
  have hj : j < i := by rw [List.length_take] at h1; omega
  have := h j hj
  simpa [List.getD_eq_getElem?_getD, List.getElem?_eq_getElem (show j < a.length by omega), List.getElem?_eq_getElem (show j < b.length by omega)] using this
/-- texts stand as their characters do: i: the first place at which they part -/
theorem less_enc {a b : List Int} (ha : allW a = true) (hb : allW b = true) {i : Nat} (hia : i ≤ a.length) (hib : i ≤ b.length) (h : ∀ j, j < i → a.getD j 0 = b.getD j 0)
    (hend : i = a.length ∨ i = b.length ∨ a.getD i 0 ≠ b.getD i 0) :
    Op.bytesLess (encT a) (encT b) = (decide (i < b.length) && (decide (i = a.length) || decide (a.getD i 0 < b.getD i 0))) := by
  have e := take_same hia hib h
  unfold encT
  rw [if_pos ha, if_pos hb]
  rw [allW_iff] at ha hb
  by_cases h1 : i < b.length
  · by_cases h2 : i < a.length
    · have hne : a.getD i 0 ≠ b.getD i 0 := hend.resolve_left (by omega) |>.resolve_left (by omega)
      rw [enc_split h1, enc_split h2, e, bytesOf_app, bytesOf_app (enc (b.take i)), less_app]
      rcases Int.lt_or_gt_of_ne hne with q | q
      · rw [(less_one (ha _ (getD_mem h2)) (hb _ (getD_mem h1)) q _ _).1]
        simp [h1, q, -List.getD_eq_getElem?_getD]
      · rw [(less_one (hb _ (getD_mem h1)) (ha _ (getD_mem h2)) q _ _).2]
        have q1 : ¬ (a.getD i 0 < b.getD i 0) := by omega
        have q2 : ¬ i = a.length := by omega
        simp [q1, q2, -List.getD_eq_getElem?_getD]
    · obtain rfl : i = a.length := by omega
      rw [List.take_length] at e
      rw [enc_split h1, ← e, bytesOf_app]
      have : bytesOf (enc a) = bytesOf (enc a) ++ [] := by simp
      conv => lhs; arg 1; rw [this]
      rw [less_app]
      have hn : bytesOf (one (b.getD a.length 0) ++ enc (b.drop (a.length + 1))) ≠ [] := by
        intro e2
        have := congrArg List.length e2
        rw [bytesOf_len, List.length_append] at this
        have := one_len (b.getD a.length 0)
        simp only [List.length_nil] at *
        omega
      cases hq : bytesOf (one (b.getD a.length 0) ++ enc (b.drop (a.length + 1))) with
      | nil => exact absurd hq hn
      | cons x y => simp [Op.bytesLess, h1]
  · obtain rfl : i = b.length := by omega
    rw [List.take_length] at e
    have e3 : a = b ++ a.drop b.length := by
      have e0 := List.take_append_drop b.length a
      rw [e] at e0
      exact e0.symm
    have e4 : bytesOf (enc b) = bytesOf (enc b) ++ [] := by simp
    conv => lhs; rw [e3, enc_app, bytesOf_app]; arg 2; rw [e4]
    rw [less_app]
    cases bytesOf (enc (a.drop b.length)) <;> simp [Op.bytesLess]

/-! ### read back -/
theorem dec_enc_aux : ∀ (l m : List Int), allW l = true → decF (bytesOf (enc l)).length m (bytesOf (enc l)) = some (m ++ l)
  | [], m, _ => by simp [enc, bytesOf, decF]
  | c :: l, m, h => by
    have hw := allW_iff.1 h
    have hc := hw c (by simp)
    have hl := dec_enc_aux l (m ++ [c]) (allW_iff.2 fun d hd => hw d (by simp [hd]))
    have e : firstP (bytesOf (enc (c :: l))) = (c, ((one c).length : Int)) := by
      apply firstP_of hc
      rw [enc_cons, bytesOf_app, List.take_left' (by rw [bytesOf_len])]
    have hlen := one_len c
    have hne : bytesOf (enc (c :: l)) ≠ [] := by
      intro e2
      have := congrArg List.length e2
      rw [bytesOf_len, enc_cons, List.length_append] at this
      simp only [List.length_nil] at this
      omega
    rw [dec_step hne e (by omega)]
    have e2 : (bytesOf (enc (c :: l))).drop (one c).length = bytesOf (enc l) := by
      rw [enc_cons, bytesOf_app, List.drop_left' (by rw [bytesOf_len])]
    rw [e2, hl]
    simp
theorem dec_enc {l : List Int} (h : allW l = true) : decL (bytesOf (enc l)) = l ∧ decE (bytesOf (enc l)) = 0 := by
  have := dec_enc_aux l [] h
  unfold decL decE dec
  rw [this]
  exact ⟨rfl, rfl⟩
theorem encE_zero {l : List Int} (h : (encE l == 0) = true) : allW l = true := by
  unfold encE at h
  cases hq : allW l
  · rw [hq] at h; cases h
  · rfl
theorem encT_len (l : List Int) : (encT l).length ≤ 4 * l.length := by
  unfold encT
  split
  · rw [bytesOf_len]; exact enc_len l
  · simp
theorem encE_ok {l : List Int} (h : (encE l != 0) = false) : allW l = true := by
  unfold encE at h
  cases hq : allW l
  · rw [hq] at h; cases h
  · rfl
theorem encT_two {a b : List Int} (ha : (encE a == 0) = true) (hb : (encE b == 0) = true) : encT a ++ encT b = bytesOf (enc (a ++ b)) ∧ allW (a ++ b) = true := by
  have ha := encE_zero ha
  have hb := encE_zero hb
  refine ⟨by unfold encT; rw [if_pos ha, if_pos hb, enc_app, bytesOf_app], ?_⟩
  unfold allW at *
  rw [List.all_append, ha, hb]; rfl
theorem dec_two {a b : List Int} (ha : (encE a == 0) = true) (hb : (encE b == 0) = true) : decL (encT a ++ encT b) = a ++ b ∧ (decE (encT a ++ encT b) != 0) = false := by
  obtain ⟨h1, h2⟩ := encT_two ha hb
  obtain ⟨h3, h4⟩ := dec_enc h2
  rw [h1]
  exact ⟨h3, by rw [h4]; rfl⟩
theorem enc_dec_aux : ∀ (n : Nat) (s : List UInt8) (m r : List Int), s.length ≤ n → allW m = true → decF s.length m s = some r → allW r = true ∧ bytesOf (enc m) ++ s = bytesOf (enc r)
  | 0, s, m, r, hn, hm, h => by
    obtain rfl : s = [] := List.eq_nil_of_length_eq_zero (by omega)
    simp only [List.length_nil, decF, if_true, Option.some.injEq] at h
    subst h
    exact ⟨hm, by simp⟩
  | n + 1, s, m, r, hn, hm, h => by
    by_cases hs : s = []
    · subst hs
      simp only [List.length_nil, decF, if_true, Option.some.injEq] at h
      subst h
      exact ⟨hm, by simp⟩
    · have hp := List.length_pos_iff.2 hs
      have hf := firstP_n hp
      by_cases hz : (firstP s).2 = 0
      · obtain ⟨k, hk⟩ : ∃ k, s.length = k + 1 := ⟨s.length - 1, by omega⟩
        rw [hk] at h
        have h' : (if s = [] then some m else if (firstP s).2 = 0 then none else decF k (m ++ [(firstP s).1]) (s.drop (firstP s).2.toNat)) = some r := h
        rw [if_neg hs, if_pos hz] at h'
        cases h'
      · obtain ⟨q, hq⟩ : ∃ q : Nat, (firstP s).2 = (q : Int) := ⟨(firstP s).2.toNat, by omega⟩
        obtain ⟨h1, h2, h3⟩ := firstP_yes hp hq (by omega)
        rw [dec_step2 hs hq (by omega)] at h
        have hm2 : allW (m ++ [(firstP s).1]) = true := by
          unfold allW at *
          rw [List.all_append, hm]; simpa using h1
        obtain ⟨r1, r2⟩ := enc_dec_aux n (s.drop q) _ r (by rw [List.length_drop]; omega) hm2 h
        refine ⟨r1, ?_⟩
        rw [← r2, enc_snoc, bytesOf_app, h2, List.append_assoc, List.take_append_drop]
theorem enc_dec {s : List UInt8} (h : (decE s != 0) = false) : encE (decL s) = 0 ∧ encT (decL s) = s := by
  unfold decE at h
  cases hq : dec s with
  | none => rw [hq] at h; cases h
  | some r =>
    have e : decL s = r := by unfold decL; rw [hq]; rfl
    obtain ⟨h1, h2⟩ := enc_dec_aux s.length s [] r (Nat.le_refl _) rfl hq
    rw [e]
    unfold encE encT
    rw [if_pos h1, if_pos h1]
    exact ⟨rfl, by rw [← h2]; rfl⟩
theorem dec_none {s : List UInt8} (h : (decE s != 0) = true) : decL s = [] := by
  unfold decE at h
  unfold decL
  cases hq : dec s with
  | none => rfl
  | some r => rw [hq] at h; cases h
theorem decL_len {s : List UInt8} : (decL s).length ≤ s.length := by
  have : ∀ (n : Nat) (s : List UInt8) (m r : List Int), s.length ≤ n → decF s.length m s = some r → r.length ≤ m.length + s.length := by
    intro n
    induction n with
    | zero =>
      intro s m r hn h
      obtain rfl : s = [] := List.eq_nil_of_length_eq_zero (by omega)
      simp only [List.length_nil, decF, if_true, Option.some.injEq] at h
      subst h; omega
    | succ n ih =>
      intro s m r hn h
      by_cases hs : s = []
      · subst hs
        simp only [List.length_nil, decF, if_true, Option.some.injEq] at h
        subst h; omega
      · have hp := List.length_pos_iff.2 hs
        have hf := firstP_n hp
        by_cases hz : (firstP s).2 = 0
        · obtain ⟨k, hk⟩ : ∃ k, s.length = k + 1 := ⟨s.length - 1, by omega⟩
          rw [hk] at h
          have h' : (if s = [] then some m else if (firstP s).2 = 0 then none else decF k (m ++ [(firstP s).1]) (s.drop (firstP s).2.toNat)) = some r := h
          rw [if_neg hs, if_pos hz] at h'
          cases h'
        · obtain ⟨q, hq⟩ : ∃ q : Nat, (firstP s).2 = (q : Int) := ⟨(firstP s).2.toNat, by omega⟩
          rw [dec_step2 hs hq (by omega)] at h
          have := ih _ _ _ (by rw [List.length_drop]; omega) h
          rw [List.length_append, List.length_drop, List.length_singleton] at this
          omega
  unfold decL
  cases hq : dec s with
  | none => simp
  | some r =>
    have := this s.length s [] r (Nat.le_refl _) hq
    simpa using this

end Go.UtfP
