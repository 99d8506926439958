/-
  Terms of texts, as plain lists. No condition.
-/
import Derived.Test.YtnhplkkbpmijdaaUtfP
import Derived.Test.YtnhplkkbpmijdaaRec
namespace Go.TokP
open Go.Gw Go.UtfP
set_option linter.unusedVariables false
set_option linter.unusedSimpArgs false

/-- a term at its place -/
structure Tok where
  t : List UInt8
  a : Int
def tokc (x : Tok) : List Value := [.string (sb x.t), .int .i64 x.a]
theorem tokc_len (x : Tok) : (tokc x).length = 2 := rfl
theorem tokc_one (x : Tok) : ∀ u ∈ tokc x, u.oneCell' = true := by
  intro u hu; simp [tokc] at hu; rcases hu with rfl | rfl <;> rfl

/-- the words that end in a list, w lies open -/
def wordsG (w : List Int) : List Int → List (List Int)
  | [] => []
  | c :: r => if letter c = true then wordsG (w ++ [fold c]) r else if w = [] then wordsG [] r else w :: wordsG [] r
def words (l : List Int) : List (List Int) := wordsG [] (l ++ [32])
def termB (w : List Int) : List UInt8 := bytesOf (enc w)
def fits (ws : List (List Int)) : Bool := ws.all fun w => decide ((termB w).length ≤ 64)
def toksF (n : Nat) : List (List Int) → List Tok
  | [] => []
  | w :: ws => ⟨termB w, (n : Int)⟩ :: toksF (n + 1) ws
theorem toksF_snoc (w : List Int) : ∀ (n : Nat) (ws : List (List Int)), toksF n (ws ++ [w]) = toksF n ws ++ [⟨termB w, ((n + ws.length : Nat) : Int)⟩]
  | n, [] => rfl
  | n, x :: ws => by
    have := toksF_snoc w (n + 1) ws
    simp only [List.cons_append, toksF, this, List.length_cons]
    rw [show n + 1 + ws.length = n + (ws.length + 1) by omega]
theorem toksF_len : ∀ (n : Nat) (ws : List (List Int)), (toksF n ws).length = ws.length
  | _, [] => rfl
  | n, _ :: ws => by simp [toksF, toksF_len (n + 1) ws]
def toks (ws : List (List Int)) : List Tok := toksF 0 ws
theorem toks_snoc (ws : List (List Int)) (w : List Int) : toks (ws ++ [w]) = toks ws ++ [⟨termB w, (ws.length : Int)⟩] := by
  have := toksF_snoc w 0 ws
  rwa [Nat.zero_add] at this
theorem toks_len (ws : List (List Int)) : (toks ws).length = ws.length := toksF_len 0 ws

/-- a text's terms and the error -/
def tokL (s : List UInt8) : List Tok := if 4096 < s.length then [] else if fits (words (decL s)) = true then toks (words (decL s)) else []
def tokE (s : List UInt8) : Int := if 4096 < s.length then 4 else if decE s ≠ 0 then decE s else if fits (words (decL s)) = true then 0 else 4
theorem dec_err {s : List UInt8} (h : decE s ≠ 0) : decL s = [] := by
  unfold decE at h; unfold decL
  cases hd : dec s with
  | none => rfl
  | some l => rw [hd] at h; simp at h
theorem tok_long {s : List UInt8} (h : 4096 < s.length) : tokL s = [] ∧ tokE s = 4 := by unfold tokL tokE; rw [if_pos h, if_pos h]; exact ⟨rfl, rfl⟩
theorem tok_bad {s : List UInt8} (h : ¬ 4096 < s.length) (hd : decE s ≠ 0) : tokL s = [] ∧ tokE s = decE s := by
  unfold tokL tokE; rw [if_neg h, if_neg h, if_pos hd, dec_err hd]; exact ⟨rfl, rfl⟩
theorem tok_yes {s : List UInt8} (h : ¬ 4096 < s.length) (hd : decE s = 0) {ws : List (List Int)} (hw : words (decL s) = ws) (hf : fits ws = true) : tokL s = toks ws ∧ tokE s = 0 := by
  subst hw
  unfold tokL tokE; simp [h, hd, hf]
theorem tok_no {s : List UInt8} (h : ¬ 4096 < s.length) (hd : decE s = 0) (hf : fits (words (decL s)) = false) : tokL s = [] ∧ tokE s = 4 := by
  unfold tokL tokE; simp [h, hd, hf]
theorem fits_snoc {ws : List (List Int)} {w : List Int} (h : fits ws = true) (hw : (termB w).length ≤ 64) : fits (ws ++ [w]) = true := by
  unfold fits at *; rw [List.all_append, h]; simp [hw]
theorem fits_no {ws rs : List (List Int)} {w : List Int} (hw : 64 < (termB w).length) : fits (ws ++ w :: rs) = false := by
  unfold fits; rw [List.all_append, List.all_cons]; simp only [decide_eq_false (show ¬ (termB w).length ≤ 64 by omega), Bool.false_and, Bool.and_false]

/-- at place k of a list: what came, what lies open -/
theorem drop_cons {l : List Int} {k : Nat} (h : k < l.length) : l.drop k = l.getD k 0 :: l.drop (k + 1) := by
  rw [List.drop_eq_getElem_cons h, List.getD_eq_getElem?_getD, List.getElem?_eq_getElem h]; rfl
theorem words_letter {m w : List Int} {k : Nat} (h : k < m.length) (hl : letter (m.getD k 0) = true) : wordsG w (m.drop k) = wordsG (w ++ [fold (m.getD k 0)]) (m.drop (k + 1)) := by
  rw [drop_cons h, wordsG, if_pos hl]
theorem words_blank {m : List Int} {k : Nat} (h : k < m.length) (hl : letter (m.getD k 0) = false) : wordsG [] (m.drop k) = wordsG [] (m.drop (k + 1)) := by
  rw [drop_cons h, wordsG, if_neg (by rw [hl]; simp), if_pos rfl]
theorem words_end {m w : List Int} {k : Nat} (h : k < m.length) (hl : letter (m.getD k 0) = false) (hw : w ≠ []) : wordsG w (m.drop k) = w :: wordsG [] (m.drop (k + 1)) := by
  rw [drop_cons h, wordsG, if_neg (by rw [hl]; simp), if_neg hw]

theorem letter_whole {c : Int} (h : letter c = true) : whole c = true := by
  have := letter_iff.1 h; unfold LetterP at this; exact whole_iff.2 (by omega)
theorem fold_letter {c : Int} (h : letter c = true) : letter (fold c) = true := by
  have := letter_iff.1 h
  unfold LetterP at this
  rw [letter_iff]; unfold fold UpP LetterP
  repeat' split
  all_goals omega
theorem fold_letter_not {c : Int} (h : letter c = false) : fold c = c := by
  have : ¬ LetterP c := fun z => by rw [letter_iff.2 z] at h; cases h
  unfold LetterP at this
  unfold fold UpP
  repeat' split
  all_goals omega
theorem letter_fold_eq (c : Int) : letter (fold c) = letter c := by
  cases h : letter c with
  | true => exact fold_letter h
  | false => rw [fold_letter_not h, h]
theorem fold_fold (c : Int) : fold (fold c) = fold c := by
  unfold fold UpP
  repeat' split
  all_goals omega
theorem allW_snoc {w : List Int} {c : Int} (h : allW w = true) (hc : letter c = true) : allW (w ++ [fold c]) = true := by
  rw [allW_iff] at *
  intro x hx
  rcases List.mem_append.1 hx with hx | hx
  · exact h x hx
  · rw [List.mem_singleton] at hx; subst hx; exact letter_whole (fold_letter hc)
theorem encT_of {w : List Int} (h : allW w = true) : encT w = termB w := by unfold encT termB; rw [if_pos h]
theorem encT_one {c : Int} (h : letter c = true) : encT [fold c] = bytesOf (one (fold c)) := by
  rw [encT_of (by have := allW_snoc (w := []) (by simp [allW]) h; exact this)]; simp [termB, enc]

/-! ### by the places at which words begin -/
def restG (b : Bool) (r : List Int) : List (List Int) := if b = true then wordsG [] (r.dropWhile letter ++ [32]) else wordsG [] (r ++ [32])
theorem letter32 : letter 32 = false := by decide +kernel
theorem restG_nil (b : Bool) : restG b [] = [] := by cases b <;> decide +kernel
theorem restG_blank {b : Bool} {c : Int} {r : List Int} (h : letter c = false) : restG b (c :: r) = restG false r := by
  unfold restG
  cases b with
  | true => rw [if_pos rfl, List.dropWhile_cons_of_neg (by simp [h]), List.cons_append, wordsG, if_neg (by rw [h]; simp), if_pos rfl]; rfl
  | false => rw [if_neg (by simp), List.cons_append, wordsG, if_neg (by rw [h]; simp), if_pos rfl]; rfl
theorem restG_in {c : Int} {r : List Int} (h : letter c = true) : restG true (c :: r) = restG true r := by
  unfold restG; rw [if_pos rfl, if_pos rfl, List.dropWhile_cons_of_pos h]
theorem wordsG_open : ∀ (r w : List Int), w ≠ [] → wordsG w (r ++ [32]) = (w ++ (r.takeWhile letter).map fold) :: restG true r
  | [], w, hw => by simp [wordsG, letter32, hw, restG_nil]
  | c :: r, w, hw => by
    cases h : letter c with
    | true =>
      have ih := wordsG_open r (w ++ [fold c]) (by simp)
      rw [List.cons_append, wordsG, if_pos h, ih, restG_in h, List.takeWhile_cons_of_pos h, List.map_cons, List.append_assoc]; rfl
    | false =>
      rw [List.cons_append, wordsG, if_neg (by rw [h]; simp), if_neg hw, restG_blank h, List.takeWhile_cons_of_neg (by simp [h])]
      simp [restG]
theorem restG_begin {c : Int} {r : List Int} (h : letter c = true) : restG false (c :: r) = ((c :: r).takeWhile letter).map fold :: restG true r := by
  have h0 : restG false (c :: r) = wordsG [] (c :: (r ++ [32])) := rfl
  rw [h0, wordsG, if_pos h, List.nil_append, wordsG_open r [fold c] (by simp), List.takeWhile_cons_of_pos h]; rfl
/-- was the character ahead of place i a letter? -/
def bef (l : List Int) (i : Nat) : Bool := if i = 0 then false else letter (l.getD (i - 1) 0)
theorem bef_succ (l : List Int) (i : Nat) : bef l (i + 1) = letter (l.getD i 0) := by simp [bef]
theorem rest_step {l : List Int} {i : Nat} (h : i < l.length) (hs : letter (l.getD i 0) = false ∨ bef l i = true) : restG (bef l i) (l.drop i) = restG (bef l (i + 1)) (l.drop (i + 1)) := by
  rw [drop_cons h, bef_succ]
  cases hl : letter (l.getD i 0) with
  | false => exact restG_blank hl
  | true =>
    have hb := hs.resolve_left (by rw [hl]; simp)
    rw [hb]; exact restG_in hl
theorem take_while_eq {l : List Int} : ∀ {n : Nat}, n ≤ l.length → (∀ j, j < n → letter (l.getD j 0) = true) → (n = l.length ∨ letter (l.getD n 0) = false) → l.takeWhile letter = l.take n := by
  induction l with
  | nil => intro n _ _ _; simp
  | cons c l ih =>
    intro n hn ha hs
    cases n with
    | zero =>
      have : letter c = false := by rcases hs with h | h; cases h; simpa using h
      rw [List.takeWhile_cons_of_neg (by simp [this])]; rfl
    | succ n =>
      have h0 : letter c = true := by have := ha 0 (by omega); simpa using this
      rw [List.takeWhile_cons_of_pos h0, List.take_succ_cons, ih (by simpa using hn) (fun j hj => by have := ha (j + 1) (by omega); simpa using this) (by rcases hs with h | h; left; simpa using h; right; simpa using h)]
theorem rest_word {l : List Int} {i k : Nat} (hik : i ≤ k) (hk : k ≤ l.length) (hi : i < l.length) (hb : bef l i = false) (ha : ∀ j, i ≤ j → j < k → letter (l.getD j 0) = true) (h0 : letter (l.getD i 0) = true) (hs : k = l.length ∨ letter (l.getD k 0) = false) :
    restG (bef l i) (l.drop i) = ((l.drop i).take (k - i)).map fold :: restG (bef l (i + 1)) (l.drop (i + 1)) := by
  have e : (l.drop i).takeWhile letter = (l.drop i).take (k - i) := by
    refine take_while_eq (by rw [List.length_drop]; omega) (fun j hj => ?_) ?_
    · have := ha (i + j) (by omega) (by omega)
      simpa [List.getD_eq_getElem?_getD, List.getElem?_drop] using this
    · rcases hs with h | h
      · left; rw [List.length_drop]; omega
      · right
        rw [show k = i + (k - i) by omega] at h
        simpa [List.getD_eq_getElem?_getD, List.getElem?_drop] using h
  rw [hb, bef_succ, h0, ← e]
  have := drop_cons hi
  rw [this]
  exact restG_begin h0
theorem words_rest (l : List Int) : words l = restG (bef l 0) (l.drop 0) := rfl
theorem part_snoc {l : List Int} {i k : Nat} (hik : i ≤ k) (hk : k < l.length) : (l.drop i).take (k + 1 - i) = (l.drop i).take (k - i) ++ [l.getD k 0] := by
  rw [show k + 1 - i = k - i + 1 by omega, List.take_succ_eq_append_getElem (by rw [List.length_drop]; omega), List.getElem_drop, List.getD_eq_getElem?_getD]
  simp only [show i + (k - i) = k by omega]
  rw [List.getElem?_eq_getElem hk]; rfl
theorem termB_snoc (w : List Int) (c : Int) : termB (w ++ [c]) = termB w ++ bytesOf (one c) := by simp [termB, enc_app, bytesOf_app, enc]
theorem termB_part {l : List Int} {i k : Nat} (hik : i ≤ k) (hk : k < l.length) (hl : letter (l.getD k 0) = true) :
    termB (((l.drop i).take (k + 1 - i)).map fold) = termB (((l.drop i).take (k - i)).map fold) ++ encT [fold (l.getD k 0)] := by
  rw [part_snoc hik hk, List.map_append, List.map_singleton, termB_snoc, encT_one hl]
theorem termB_len (w : List Int) : (termB w).length ≤ 4 * w.length := by unfold termB; rw [bytesOf_len]; exact enc_len w
theorem wordsG_len : ∀ (r w : List Int), (wordsG w r).length ≤ r.length
  | [], w => by simp [wordsG]
  | c :: r, w => by
    unfold wordsG
    have h1 := wordsG_len r (w ++ [fold c])
    have h2 := wordsG_len r []
    split
    · simp only [List.length_cons]; omega
    · split
      · simp only [List.length_cons]; omega
      · simp only [List.length_cons]; omega
theorem words_count {l : List Int} {ws rs : List (List Int)} (h : words l = ws ++ rs) : ws.length ≤ l.length + 1 := by
  have h1 := wordsG_len (l ++ [32]) []
  have h2 := congrArg List.length h
  unfold words at h2
  rw [List.length_append] at h2 h1
  simp only [List.length_singleton] at h1
  omega
theorem ne_of_len {w : List Int} (h : (((List.length w : Nat) : Int) == 0) = false) : w ≠ [] := by
  rintro rfl; simp at h
instance : DecidableEq Tok := fun a b => decidable_of_iff (a.t = b.t ∧ a.a = b.a) (by cases a; cases b; simp)
def foldK (k : Nat) (l : List Int) : List Int := (l.take k).map fold ++ l.drop k
def foldL (s : List UInt8) : List Int := (decL s).map fold
theorem foldK_zero (l : List Int) : foldK 0 l = l := by simp [foldK]
theorem foldK_len (k : Nat) (l : List Int) : (foldK k l).length = l.length := by simp [foldK]; omega
theorem foldK_get {k : Nat} {l : List Int} (h : k < l.length) : (foldK k l).getD k 0 = l.getD k 0 := by
  unfold foldK
  rw [List.getD_eq_getElem?_getD, List.getD_eq_getElem?_getD, List.getElem?_append_right (by simp; omega)]
  simp [Nat.min_eq_left (Nat.le_of_lt h)]
theorem foldK_set {k : Nat} {l : List Int} (h : k < l.length) : (foldK k l).set k (fold (l.getD k 0)) = foldK (k + 1) l := by
  unfold foldK
  rw [take_snoc l h, List.map_append, List.map_singleton, List.append_assoc, drop_cons h, List.set_append_right _ _ (by simp; omega)]
  simp [Nat.min_eq_left (Nat.le_of_lt h)]
theorem foldK_all {k : Nat} {l : List Int} (h : l.length ≤ k) : foldK k l = l.map fold := by
  unfold foldK; rw [List.take_of_length_le h, List.drop_of_length_le h, List.append_nil]
theorem foldL_len (s : List UInt8) : (foldL s).length = (decL s).length := by simp [foldL]
def termE (s : List UInt8) : Int := if tokE s ≠ 0 then tokE s else if (tokL s).length ≠ 1 then 20 else 0
def termS (s : List UInt8) : List UInt8 := if termE s = 0 then ((tokL s).getD 0 (Tok.mk [] 0)).t else []
theorem term_bad {s : List UInt8} (h : tokE s ≠ 0) : termS s = [] ∧ termE s = tokE s := by
  have : termE s = tokE s := by unfold termE; rw [if_pos h]
  exact ⟨by unfold termS; rw [this, if_neg h], this⟩
theorem term_many {s : List UInt8} (h : tokE s = 0) (hl : (tokL s).length ≠ 1) : termS s = [] ∧ termE s = 20 := by
  have : termE s = 20 := by unfold termE; rw [if_neg (fun z => z h), if_pos hl]
  exact ⟨by unfold termS; rw [this, if_neg (by decide)], this⟩
theorem term_one {s : List UInt8} (h : tokE s = 0) (hl : (tokL s).length = 1) : termS s = ((tokL s).getD 0 (Tok.mk [] 0)).t ∧ termE s = 0 := by
  have : termE s = 0 := by unfold termE; rw [if_neg (fun z => z h), if_neg (fun z => z hl)]
  exact ⟨by unfold termS; rw [if_pos this], this⟩
theorem tok_ext {a b : List Tok} (h : a.length = b.length) (h2 : ∀ j, j < a.length → a.getD j (Tok.mk [] 0) = b.getD j (Tok.mk [] 0)) : a = b := by
  apply List.ext_getElem h
  intro j h3 h4
  have := h2 j h3
  simpa [List.getD_eq_getElem?_getD, List.getElem?_eq_getElem h3, List.getElem?_eq_getElem h4] using this
theorem tok_eq {a b : Tok} (h : a.t = b.t ∧ a.a = b.a) : a = b := by cases a; cases b; simp_all
theorem tok_ne {a b : List Tok} {j : Nat} (h : ¬ ((a.getD j (Tok.mk [] 0)).t = (b.getD j (Tok.mk [] 0)).t ∧ (a.getD j (Tok.mk [] 0)).a = (b.getD j (Tok.mk [] 0)).a)) : a ≠ b := by rintro rfl; exact h ⟨rfl, rfl⟩
end Go.TokP
