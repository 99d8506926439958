/-
  Texts and numbers as bytes: how they stand, how they are read back. No condition beyond those that each theorem names.
-/
import Derived.Test.YtmjkbmlcclmdkaaDoorNumL
import Derived.Test.YtmjkbmlcclmdkaaDoorTupP
import Derived.Test.YtmjkbmlcclmdkaaDoorSealP
import Derived.Lib.Bytealg
namespace Go.DoorP
open Go.Gw Go.NumP Go.SealP Go.TupP
set_option linter.unusedVariables false
set_option linter.unusedSimpArgs false
abbrev less := Op.bytesLess
/-! ### how bytes stand -/
def Lt (a b : List UInt8) : Prop := less a b = true ∧ less b a = false
theorem less_cons (c d : UInt8) (a b : List UInt8) : less (c :: a) (d :: b) = (decide (c < d) || (c == d && less a b)) := rfl
theorem less_same (c : UInt8) (a b : List UInt8) : less (c :: a) (c :: b) = less a b := by
  have h : ¬ c < c := by rw [UInt8.lt_iff_toNat_lt]; omega
  rw [less_cons, decide_eq_false h]; simp
theorem less_head {c d : UInt8} (h : c < d) (a b : List UInt8) : Lt (c :: a) (d :: b) := by
  have h2 : ¬ d < c := by rw [UInt8.lt_iff_toNat_lt] at *; omega
  have h3 : (d == c) = false := by rw [beq_eq_false_iff_ne]; rintro rfl; exact h2 h
  exact ⟨by rw [less_cons, decide_eq_true h]; rfl, by rw [less_cons, decide_eq_false h2, h3]; rfl⟩
theorem less_pre (p a b : List UInt8) : less (p ++ a) (p ++ b) = less a b := by
  induction p with
  | nil => rfl
  | cons c p ih => rw [List.cons_append, List.cons_append, less_same, ih]
theorem less_irrefl : ∀ a : List UInt8, less a a = false
  | [] => rfl
  | c :: a => by rw [less_same, less_irrefl a]
theorem less_asymm : ∀ {a b : List UInt8}, less a b = true → less b a = false
  | [], [], h => by cases h
  | [], _ :: _, _ => rfl
  | _ :: _, [], h => by cases h
  | c :: a, d :: b, h => by
    rw [less_cons] at h ⊢
    simp only [Bool.or_eq_true, Bool.and_eq_true, decide_eq_true_eq, beq_iff_eq, Bool.or_eq_false_iff, Bool.and_eq_false_iff, decide_eq_false_iff_not, beq_eq_false_iff_ne, UInt8.lt_iff_toNat_lt] at h ⊢
    rcases h with h | ⟨rfl, h⟩
    · refine ⟨by omega, .inl ?_⟩
      rintro rfl; omega
    · exact ⟨by omega, .inr (less_asymm h)⟩
theorem Lt.of {a b : List UInt8} (h : less a b = true) : Lt a b := ⟨h, less_asymm h⟩
theorem Lt.pre {a b : List UInt8} (h : Lt a b) (p : List UInt8) : Lt (p ++ a) (p ++ b) := ⟨by rw [less_pre]; exact h.1, by rw [less_pre]; exact h.2⟩
theorem less_tot : ∀ {a b : List UInt8}, less a b = false → less b a = false → a = b
  | [], [], _, _ => rfl
  | [], _ :: _, h, _ => by cases h
  | _ :: _, [], _, h => by cases h
  | c :: a, d :: b, h, k => by
    rw [less_cons] at h k
    simp only [Bool.or_eq_false_iff, Bool.and_eq_false_iff, decide_eq_false_iff_not, beq_eq_false_iff_ne, UInt8.lt_iff_toNat_lt] at h k
    have e : c = d := UInt8.toNat.inj (by omega)
    subst e
    rw [less_tot (h.2.resolve_left (fun z => z rfl)) (k.2.resolve_left (fun z => z rfl))]
/-- how two texts stand -/
def cmpT (a b : List UInt8) : Int := if less a b = true then -1 else if less b a = true then 1 else 0
theorem cmpT_lt {a b : List UInt8} (h : Lt a b) : cmpT a b = -1 ∧ cmpT b a = 1 := by
  unfold cmpT; rw [h.1, h.2]; decide
theorem cmpT_self (a : List UInt8) : cmpT a a = 0 := by unfold cmpT; rw [less_irrefl]; decide
theorem cmpT_cases (a b : List UInt8) : (Lt a b ∧ cmpT a b = -1) ∨ (Lt b a ∧ cmpT a b = 1) ∨ (a = b ∧ cmpT a b = 0) := by
  cases h : less a b with
  | true => exact .inl ⟨.of h, (cmpT_lt (.of h)).1⟩
  | false =>
    cases k : less b a with
    | true => exact .inr (.inl ⟨.of k, (cmpT_lt (.of k)).2⟩)
    | false =>
      have := less_tot h k
      subst this
      exact .inr (.inr ⟨rfl, cmpT_self _⟩)
/-! ### texts -/
def enc : List UInt8 → List UInt8
  | [] => []
  | c :: r => if c = 0 then 0 :: 255 :: enc r else c :: enc r
def textB (s : List UInt8) : List UInt8 := enc s ++ [0, 1]
theorem enc_zero (r : List UInt8) : enc (0 :: r) = 0 :: 255 :: enc r := by rw [enc, if_pos rfl]
theorem enc_char {c : UInt8} (h : ¬ c = 0) (r : List UInt8) : enc (c :: r) = c :: enc r := by rw [enc, if_neg h]
theorem enc_app (a b : List UInt8) : enc (a ++ b) = enc a ++ enc b := by
  induction a with
  | nil => rfl
  | cons c a ih =>
    by_cases h : c = 0
    · subst h; rw [List.cons_append, enc_zero, enc_zero, ih]; rfl
    · rw [List.cons_append, enc_char h, enc_char h, ih]; rfl
theorem enc_none {a : List UInt8} (h : ∀ c ∈ a, ¬ c = 0) : enc a = a := by
  induction a with
  | nil => rfl
  | cons c a ih => rw [enc_char (h c (List.mem_cons_self ..)), ih fun d hd => h d (List.mem_cons_of_mem _ hd)]
theorem enc_len : ∀ a : List UInt8, (enc a).length = a.length + a.count 0 ∧ a.count 0 ≤ a.length
  | [] => by simp [enc]
  | c :: a => by
    have := enc_len a
    by_cases h : c = 0
    · subst h; rw [enc_zero]; simp; omega
    · rw [enc_char h, List.count_cons]; simp [h]; omega
theorem textB_len (s : List UInt8) : (textB s).length ≤ 2 * s.length + 2 := by
  have := enc_len s
  unfold textB; rw [List.length_append]; simp; omega
theorem text_lt : ∀ {s t : List UInt8}, less s t = true → ∀ x y, Lt (textB s ++ x) (textB t ++ y)
  | [], [], h, _, _ => by cases h
  | _ :: _, [], h, _, _ => by cases h
  | [], d :: b, _, x, y => by
    by_cases h : d = 0
    · subst h
      unfold textB; rw [enc_zero]
      exact (less_head (by decide) _ _ : Lt (1 :: x) (255 :: (enc b ++ [0, 1] ++ y))).pre [0]
    · unfold textB; rw [enc_char h]
      exact less_head (by rw [UInt8.lt_iff_toNat_lt]; have : d.toNat ≠ 0 := fun z => h (UInt8.toNat.inj z); show 0 < d.toNat; omega) _ _
  | c :: a, d :: b, h, x, y => by
    rw [less_cons] at h
    simp only [Bool.or_eq_true, Bool.and_eq_true, decide_eq_true_eq, beq_iff_eq] at h
    rcases h with h | ⟨rfl, h⟩
    · have hd : ¬ d = 0 := by rintro rfl; rw [UInt8.lt_iff_toNat_lt] at h; exact absurd h (Nat.not_lt_zero _)
      unfold textB; rw [enc_char hd]
      by_cases hc : c = 0
      · subst hc; rw [enc_zero]; exact less_head h _ _
      · rw [enc_char hc]; exact less_head h _ _
    · have ih := text_lt h x y
      unfold textB at ih ⊢
      by_cases hc : c = 0
      · subst hc; rw [enc_zero, enc_zero]; exact ih.pre [0, 255]
      · rw [enc_char hc, enc_char hc]; exact ih.pre [c]
/-! ### numbers -/
theorem u8_lt {a b : Int} (h0 : 0 ≤ a) (h : a < b) (hb : b ≤ 255) : UInt8.ofNat a.toNat < UInt8.ofNat b.toNat := by
  rw [UInt8.lt_iff_toNat_lt]; simp; omega
theorem bytes_cons (a : Int) (l : List Int) : bytesOf (a :: l) = UInt8.ofNat a.toNat :: bytesOf l := rfl
theorem bytes_snoc (l : List Int) (a : Int) : bytesOf (l ++ [a]) = bytesOf l ++ [UInt8.ofNat a.toNat] := by simp [bytesOf]
theorem digs_lt : ∀ (k x y : Nat), x < y → y < 256 ^ k → ∀ u v, Lt (bytesOf (digs k x) ++ u) (bytesOf (digs k y) ++ v)
  | 0, x, y, h, h2, _, _ => by simp at h2; omega
  | k + 1, x, y, h, h2, u, v => by
    rw [digs, digs, bytes_snoc, bytes_snoc, List.append_assoc, List.append_assoc]
    rcases Nat.lt_or_ge (x / 256) (y / 256) with g | g
    · exact digs_lt k _ _ g (by rw [Nat.pow_succ] at h2; exact Nat.div_lt_of_lt_mul (by omega)) _ _
    · have e : x / 256 = y / 256 := by omega
      rw [e]
      exact (less_head (u8_lt (by omega) (by omega) (by omega)) u v).pre _
theorem digs_gt : ∀ (k x y : Nat), x < y → y < 256 ^ k → ∀ u v, Lt (bytesOf ((digs k y).map (flipI 255)) ++ u) (bytesOf ((digs k x).map (flipI 255)) ++ v)
  | 0, x, y, h, h2, _, _ => by simp at h2; omega
  | k + 1, x, y, h, h2, u, v => by
    rw [digs, digs, List.map_append, List.map_append]
    simp only [List.map_cons, List.map_nil]
    rw [bytes_snoc, bytes_snoc, List.append_assoc, List.append_assoc]
    rcases Nat.lt_or_ge (x / 256) (y / 256) with g | g
    · exact digs_gt k _ _ g (by rw [Nat.pow_succ] at h2; exact Nat.div_lt_of_lt_mul (by omega)) _ _
    · have e : x / 256 = y / 256 := by omega
      rw [e]
      exact (less_head (u8_lt (by unfold flipI; simp; omega) (by unfold flipI; simp; omega) (by unfold flipI; simp; omega)) u v).pre _
theorem sz_mono {x y : Nat} (h : x ≤ y) : sz x ≤ sz y := by
  unfold sz; repeat' split
  all_goals omega
theorem sz_hi {x : Nat} (h : x < 18446744073709551616) : x < 256 ^ sz x := by
  unfold sz; repeat' split
  all_goals omega
theorem num_lt {a b : Int} (ha : -9223372036854775808 ≤ a) (hb : b ≤ 9223372036854775807) (h : a < b) (x y : List UInt8) : Lt (bytesOf (numB a) ++ x) (bytesOf (numB b) ++ y) := by
  have b1 := sz_bd (a - 112).toNat
  have b2 := sz_bd (b - 112).toNat
  have b3 := sz_bd (-113 - a).toNat
  have b4 := sz_bd (-113 - b).toNat
  unfold numB
  by_cases a1 : 111 < a
  · rw [if_pos a1, if_pos (by omega)]
    have hm := sz_mono (show (a - 112).toNat ≤ (b - 112).toNat by omega)
    rw [bytes_cons, bytes_cons]
    rcases Nat.lt_or_ge (sz (a - 112).toNat) (sz (b - 112).toNat) with g | g
    · exact less_head (u8_lt (by omega) (by omega) (by omega)) _ _
    · have e : sz (a - 112).toNat = sz (b - 112).toNat := by omega
      rw [e]
      exact (digs_lt _ _ _ (by omega) (sz_hi (by omega)) x y).pre [_]
  · rw [if_neg a1]
    by_cases a2 : a < -112
    · rw [if_pos a2]
      by_cases b1' : 111 < b
      · rw [if_pos b1']; rw [bytes_cons, bytes_cons]; exact less_head (u8_lt (by omega) (by omega) (by omega)) _ _
      · rw [if_neg b1']
        by_cases b2' : b < -112
        · rw [if_pos b2', bytes_cons, bytes_cons]
          have hm := sz_mono (show (-113 - b).toNat ≤ (-113 - a).toNat by omega)
          rcases Nat.lt_or_ge (sz (-113 - b).toNat) (sz (-113 - a).toNat) with g | g
          · exact less_head (u8_lt (by omega) (by omega) (by omega)) _ _
          · have e : sz (-113 - a).toNat = sz (-113 - b).toNat := by omega
            rw [e]
            exact (digs_gt _ _ _ (by omega) (by rw [← e]; exact sz_hi (by omega)) x y).pre [_]
        · rw [if_neg b2']; rw [bytes_cons, bytes_cons]; exact less_head (u8_lt (by omega) (by omega) (by omega)) _ _
    · rw [if_neg a2]
      by_cases b1' : 111 < b
      · rw [if_pos b1']; rw [bytes_cons, bytes_cons]; exact less_head (u8_lt (by omega) (by omega) (by omega)) _ _
      · rw [if_neg b1', if_neg (by omega)]; rw [bytes_cons, bytes_cons]; exact less_head (u8_lt (by omega) (by omega) (by omega)) _ _
def cmpI (a b : Int) : Int := if a < b then -1 else if b < a then 1 else 0
abbrev nb (n : Int) : List UInt8 := bytesOf (numB n)
abbrev Fit (n : Int) : Prop := -9223372036854775808 ≤ n ∧ n ≤ 9223372036854775807
theorem num_cmp {a b : Int} (ha : Fit a) (hb : Fit b) (h : a ≠ b) (x y : List UInt8) : cmpT (nb a ++ x) (nb b ++ y) = cmpI a b := by
  unfold cmpI
  rcases Int.lt_or_gt_of_ne h with g | g
  · rw [if_pos g]; exact (cmpT_lt (num_lt ha.1 hb.2 g x y)).1
  · rw [if_neg (by omega), if_pos g]; exact (cmpT_lt (num_lt hb.1 ha.2 g y x)).2
theorem num_cmp0 {a b : Int} (ha : Fit a) (hb : Fit b) : cmpT (nb a) (nb b) = cmpI a b := by
  by_cases h : a = b
  · subst h; rw [cmpT_self]; unfold cmpI; simp
  · have := num_cmp ha hb h [] []
    simpa using this
theorem text_cmp {s t : List UInt8} (h : s ≠ t) (x y : List UInt8) : cmpT (textB s ++ x) (textB t ++ y) = cmpT s t := by
  rcases cmpT_cases s t with ⟨g, e⟩ | ⟨g, e⟩ | ⟨g, e⟩
  · rw [e]; exact (cmpT_lt (text_lt g.1 x y)).1
  · rw [e]; exact (cmpT_lt (text_lt g.1 y x)).2
  · exact absurd g h
theorem text_cmp0 (s t : List UInt8) : cmpT (textB s) (textB t) = cmpT s t := by
  by_cases h : s = t
  · subst h; rw [cmpT_self, cmpT_self]
  · have := text_cmp h [] []
    simpa using this
/-! ### rows of a text and a number -/
abbrev RowT := List UInt8 × Int
def rowB (p : RowT) : List UInt8 := textB p.1 ++ nb p.2
def rowsB (l : List RowT) : List UInt8 := l.flatMap rowB
def cmpR (p q : RowT) : Int := if p.1 = q.1 then cmpI p.2 q.2 else cmpT p.1 q.1
theorem row_cmp {p q : RowT} (hp : Fit p.2) (hq : Fit q.2) (h : p ≠ q) (x y : List UInt8) : cmpT (rowB p ++ x) (rowB q ++ y) = cmpR p q ∧ cmpR p q ≠ 0 := by
  unfold rowB cmpR
  rw [List.append_assoc, List.append_assoc]
  by_cases e : p.1 = q.1
  · rw [if_pos e, e]
    have hne : p.2 ≠ q.2 := fun z => h (Prod.ext e z)
    refine ⟨?_, by unfold cmpI; split; decide; rw [if_pos (by omega)]; decide⟩
    have := num_cmp hp hq hne x y
    rw [← this]; unfold cmpT; rw [less_pre, less_pre]
  · rw [if_neg e]
    refine ⟨text_cmp e _ _, ?_⟩
    rcases cmpT_cases p.1 q.1 with ⟨_, g⟩ | ⟨_, g⟩ | ⟨g, _⟩
    · rw [g]; decide
    · rw [g]; decide
    · exact absurd g e
theorem cmp_pre (p a b : List UInt8) : cmpT (p ++ a) (p ++ b) = cmpT a b := by unfold cmpT; rw [less_pre, less_pre]
/-- the first difference -/
def wantR : List RowT → List RowT → Int
  | [], [] => 0
  | [], _ :: _ => -1
  | _ :: _, [] => 1
  | p :: a, q :: b => if cmpR p q = 0 then wantR a b else cmpR p q
theorem rowB_ne (p : RowT) : ∃ c r, rowB p = c :: r := by
  cases h : rowB p with
  | nil =>
    have := congrArg List.length h
    simp [rowB, textB] at this
  | cons c r => exact ⟨c, r, rfl⟩
theorem cmpR_self (p : RowT) : cmpR p p = 0 := by unfold cmpR cmpI; simp
theorem rows_cmp : ∀ (a b : List RowT), (∀ p ∈ a, Fit p.2) → (∀ p ∈ b, Fit p.2) → cmpT (rowsB a) (rowsB b) = wantR a b
  | [], [], _, _ => cmpT_self _
  | [], q :: b, _, _ => by
    obtain ⟨c, r, h⟩ := rowB_ne q
    show cmpT [] (rowB q ++ rowsB b) = -1
    rw [h]; rfl
  | p :: a, [], _, _ => by
    obtain ⟨c, r, h⟩ := rowB_ne p
    show cmpT (rowB p ++ rowsB a) [] = 1
    rw [h]; rfl
  | p :: a, q :: b, ha, hb => by
    show cmpT (rowB p ++ rowsB a) (rowB q ++ rowsB b) = wantR (p :: a) (q :: b)
    rw [wantR]
    by_cases e : p = q
    · subst e
      rw [if_pos (cmpR_self p), cmp_pre]
      exact rows_cmp a b (fun x h => ha x (List.mem_cons_of_mem _ h)) (fun x h => hb x (List.mem_cons_of_mem _ h))
    · obtain ⟨h1, h2⟩ := row_cmp (ha p (List.mem_cons_self ..)) (hb q (List.mem_cons_self ..)) e (rowsB a) (rowsB b)
      rw [if_neg h2, h1]
end Go.DoorP
namespace Go.DoorP
open Go.Gw Go.NumP Go.SealP Go.TupP
set_option linter.unusedVariables false
set_option linter.unusedSimpArgs false
/-! ### zeros, one behind the other -/
def zix : List UInt8 → Nat
  | [] => 0
  | c :: r => if c = 0 then 0 else zix r + 1
theorem index_zix : ∀ {l : List UInt8}, 0 < l.count 0 → Lib.indexByte l 0 = (zix l : Int) ∧ zix l < l.length
  | [], h => by simp at h
  | c :: r, h => by
    unfold Lib.indexByte zix
    by_cases e : c = 0
    · subst e; simp
    · have e2 : (c == 0) = false := beq_eq_false_iff_ne.2 e
      rw [List.count_cons, e2] at h
      obtain ⟨h1, h2⟩ := index_zix (l := r) (by simpa using h)
      have e3 : (Lib.indexByte r 0 == -1) = false := by rw [h1, beq_eq_false_iff_ne]; omega
      rw [e2, e3, if_neg e, h1]
      simp; omega
theorem zix_split : ∀ {l : List UInt8}, 0 < l.count 0 → enc l = l.take (zix l) ++ [0, 255] ++ enc (l.drop (zix l + 1)) ∧ (l.drop (zix l + 1)).count 0 + 1 = l.count 0 ∧ enc (l.take (zix l)) = l.take (zix l) ∧ l.getD (zix l) 1 = 0
  | [], h => by simp at h
  | c :: r, h => by
    unfold zix
    by_cases e : c = 0
    · subst e; rw [if_pos rfl, enc_zero]; simp [enc]
    · have e2 : (c == 0) = false := beq_eq_false_iff_ne.2 e
      rw [List.count_cons, e2] at h ⊢
      obtain ⟨h1, h2, h3, h4⟩ := zix_split (l := r) (by simpa using h)
      rw [if_neg e, enc_char e]
      refine ⟨by rw [h1]; simp, by simpa using h2, ?_, by simpa using h4⟩
      rw [List.take_succ_cons, enc_char e, h3]
theorem enc_free {l : List UInt8} (h : l.count 0 = 0) : enc l = l := enc_none fun c hc => by
  rintro rfl
  exact absurd (List.count_pos_iff.2 hc) (by omega)
section
variable {s : List UInt8} {a : Nat}
theorem rp_all (h : a ≤ s.length) : enc s = enc (s.take a) ++ enc (s.drop a) := by rw [← enc_app, List.take_append_drop]
/-- one zero more -/
theorem rp_step (h : a ≤ s.length) (hc : 0 < (s.drop a).count 0) : enc (s.take (a + zix (s.drop a) + 1)) = enc (s.take a) ++ List.drop a (List.take (a + zix (s.drop a)) s) ++ [0, 255] ∧ (s.drop (a + zix (s.drop a) + 1)).count 0 + 1 = (s.drop a).count 0 ∧ a + zix (s.drop a) + 1 ≤ s.length ∧
    (enc (s.take a)).length + zix (s.drop a) + 2 ≤ (enc s).length := by
  obtain ⟨_, h2⟩ := index_zix hc
  obtain ⟨h3, h4, h5, h6⟩ := zix_split hc
  rw [List.length_drop] at h2
  have e1 : List.drop a (List.take (a + zix (s.drop a)) s) = (s.drop a).take (zix (s.drop a)) := by rw [List.drop_take]; congr 1; omega
  have e2 : s.take (a + zix (s.drop a) + 1) = s.take a ++ ((s.drop a).take (zix (s.drop a)) ++ [0]) := by
    rw [Nat.add_assoc, List.take_add]
    congr 1
    have hl : zix (s.drop a) < (s.drop a).length := by rw [List.length_drop]; omega
    rw [List.take_succ_eq_append_getElem hl]
    congr 2
    rw [List.getD_eq_getElem?_getD, List.getElem?_eq_getElem hl] at h6
    simpa using h6
  refine ⟨?_, ?_, by omega, ?_⟩
  · rw [e2, e1, enc_app, enc_app, h5]; simp [enc]
  · rw [← h4, List.drop_drop]; rfl
  · rw [rp_all h, List.length_append, h3]
    simp
    omega
theorem rp_end (h : a ≤ s.length) (hc : (s.drop a).count 0 = 0) : enc s = enc (s.take a) ++ s.drop a := by rw [rp_all h, enc_free hc]
/-- the reference's text: what stands between two zeros -/
theorem rt_zero {f i : Nat} (h : i < s.length) (hf : f ≤ i) (hz : ∀ j, f ≤ j → j < i → ¬ bl s j = 0) (h0 : bl s i = 0) : enc (s.take (i + 1)) = enc (s.take f) ++ List.drop f (List.take (i + 1) s) ++ [255] := by
  have e : s.take (i + 1) = s.take f ++ (List.drop f (s.take i) ++ [0]) := by
    rw [List.take_succ_eq_append_getElem h, ← List.append_assoc]
    congr 1
    · have := List.take_append_drop f (s.take i)
      rw [List.take_take, Nat.min_eq_left hf] at this
      exact this.symm
    · unfold bl at h0
      rw [List.getD_eq_getElem?_getD, List.getElem?_eq_getElem h] at h0
      have : s[i].toNat = 0 := by simpa using h0
      rw [show s[i] = 0 from UInt8.toNat.inj this]
  have e2 : enc (List.drop f (s.take i)) = List.drop f (s.take i) := enc_none fun c hc => by
    obtain ⟨j, hj, rfl⟩ := List.getElem_of_mem hc
    rw [List.length_drop, List.length_take] at hj
    intro z
    have := hz (f + j) (by omega) (by omega)
    unfold bl at this
    rw [List.getD_eq_getElem?_getD, List.getElem?_eq_getElem (by omega)] at this
    rw [List.getElem_drop, List.getElem_take] at z
    rw [Option.getD_some, z] at this
    exact this rfl
  have e3 : List.drop f (List.take (i + 1) s) = List.drop f (s.take i) ++ [0] := by
    rw [e, List.drop_append_of_le_length (by rw [List.length_take]; omega), List.drop_of_length_le (by rw [List.length_take]; omega)]; rfl
  rw [e3, e, enc_app, enc_app, e2]; simp [enc]
theorem rt_end {f : Nat} (hf : f ≤ s.length) (hz : ∀ j, f ≤ j → j < s.length → ¬ bl s j = 0) : enc s = enc (s.take f) ++ s.drop f := by
  rw [rp_all hf]
  congr 1
  refine enc_none fun c hc => ?_
  obtain ⟨j, hj, rfl⟩ := List.getElem_of_mem hc
  rw [List.length_drop] at hj
  intro z
  have := hz (f + j) (by omega) (by omega)
  unfold bl at this
  rw [List.getD_eq_getElem?_getD, List.getElem?_eq_getElem (by omega)] at this
  rw [List.getElem_drop] at z
  rw [Option.getD_some, z] at this
  exact this rfl
end
end Go.DoorP
