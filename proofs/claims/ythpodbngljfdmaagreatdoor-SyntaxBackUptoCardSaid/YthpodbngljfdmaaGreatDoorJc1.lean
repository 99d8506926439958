/-
  Joined texts. No condition beyond those that each theorem names. What they say:
  Terms of texts, as plain lists. No condition.
  The order of the 64 bits of floats, as plain numbers. No condition; no program in sight.
  The quotient of two whole numbers, rounded to the nearest number of 64 bits, as long division gives it. For numbers from 1 on below 2^53.
  The number of a text: as the program goes over it, and as the document's digits say. No condition beyond those that each theorem names.
  The bodies of five library functions stand in the program, numbered by shR. No condition.
  An array variable cut from a place on: the slice, and what it reads. No condition.
  Panics, deferred calls, recover, in compact walks. No condition.
  Compact steps: results in variables; calls that may end by a panic of one kind; a variable lent to a callee. No condition.
  The walks of the classes of characters: Whole, Letter, Fold of the program, Whole of the reference. For every number.
  The walk of first: the first character of bytes that are not none.
  The walk of Encode: the bytes of a list of numbers.
  The walks of the reference: one, Encode, guess.
  The walks of Decode, of the program and of the reference.
  The walks of among, Letter and Fold of the reference; of Numbers.
  The walk of Tokens: the terms of a text.
  The walks of Term and Folded.
  The walk of the reference's Tokens.
  The walks of the reference's Same, Term, Folded.
  A frame with one call put off: how it leaves; a deferred call that takes a panic back. No condition.
-/
import Ieee.Arith
import GoSem.Core.Float
import Derived.Laws.FloatArith
import Derived.Shelf.Strings.CaseAny
import Derived.Shelf.Strings.Search3
import Derived.Shelf.Strings.Repeat
import Derived.Shelf.Strconv.Itoa3
import Derived.Shelf.Strconv.Clone
import Derived.Test.YthpodbngljfdmaaGreatDoorChecked
import Derived.Test.YthpodbngljfdmaaGreatDoorJc0
namespace Go.TokP
open Go.Gw Go.UtfP
set_option linter.unusedVariables false
set_option linter.unusedSimpArgs false

/-- a term at its place -/
structure Tok where
  t : List UInt8
  a : Int
def tokc (x : Tok) : List Value := [.string (sb x.t), .int .i64 x.a]
theorem tokc_len (x : Tok) : (tokc x).length = 2 := rfl
theorem tokc_one (x : Tok) : ∀ u ∈ tokc x, u.oneCell' = true := by
  intro u hu; simp [tokc] at hu; rcases hu with rfl | rfl <;> rfl

/-- the words that end in a list, w lies open -/
def wordsG (w : List Int) : List Int → List (List Int)
  | [] => []
  | c :: r => if letter c = true then wordsG (w ++ [fold c]) r else if w = [] then wordsG [] r else w :: wordsG [] r
def words (l : List Int) : List (List Int) := wordsG [] (l ++ [32])
def termB (w : List Int) : List UInt8 := bytesOf (enc w)
def fits (ws : List (List Int)) : Bool := ws.all fun w => decide ((termB w).length ≤ 64)
def toksF (n : Nat) : List (List Int) → List Tok
  | [] => []
  | w :: ws => ⟨termB w, (n : Int)⟩ :: toksF (n + 1) ws
theorem toksF_snoc (w : List Int) : ∀ (n : Nat) (ws : List (List Int)), toksF n (ws ++ [w]) = toksF n ws ++ [⟨termB w, ((n + ws.length : Nat) : Int)⟩]
  | n, [] => rfl
  | n, x :: ws => by
    have := toksF_snoc w (n + 1) ws
    simp only [List.cons_append, toksF, this, List.length_cons]
    rw [show n + 1 + ws.length = n + (ws.length + 1) by omega]
theorem toksF_len : ∀ (n : Nat) (ws : List (List Int)), (toksF n ws).length = ws.length
  | _, [] => rfl
  | n, _ :: ws => by simp [toksF, toksF_len (n + 1) ws]
def toks (ws : List (List Int)) : List Tok := toksF 0 ws
theorem toks_snoc (ws : List (List Int)) (w : List Int) : toks (ws ++ [w]) = toks ws ++ [⟨termB w, (ws.length : Int)⟩] := by
  have := toksF_snoc w 0 ws
  rwa [Nat.zero_add] at this
theorem toks_len (ws : List (List Int)) : (toks ws).length = ws.length := toksF_len 0 ws

/-- a text's terms and the error -/
def tokL (s : List UInt8) : List Tok := if 4096 < s.length then [] else if fits (words (decL s)) = true then toks (words (decL s)) else []
def tokE (s : List UInt8) : Int := if 4096 < s.length then 4 else if decE s ≠ 0 then decE s else if fits (words (decL s)) = true then 0 else 4
theorem dec_err {s : List UInt8} (h : decE s ≠ 0) : decL s = [] := by
  unfold decE at h; unfold decL
  cases hd : dec s with
  | none => rfl
  | some l => rw [hd] at h; simp at h
theorem tok_long {s : List UInt8} (h : 4096 < s.length) : tokL s = [] ∧ tokE s = 4 := by unfold tokL tokE; rw [if_pos h, if_pos h]; exact ⟨rfl, rfl⟩
theorem tok_bad {s : List UInt8} (h : ¬ 4096 < s.length) (hd : decE s ≠ 0) : tokL s = [] ∧ tokE s = decE s := by
  unfold tokL tokE; rw [if_neg h, if_neg h, if_pos hd, dec_err hd]; exact ⟨rfl, rfl⟩
theorem tok_yes {s : List UInt8} (h : ¬ 4096 < s.length) (hd : decE s = 0) {ws : List (List Int)} (hw : words (decL s) = ws) (hf : fits ws = true) : tokL s = toks ws ∧ tokE s = 0 := by
  subst hw
  unfold tokL tokE; simp [h, hd, hf]
theorem tok_no {s : List UInt8} (h : ¬ 4096 < s.length) (hd : decE s = 0) (hf : fits (words (decL s)) = false) : tokL s = [] ∧ tokE s = 4 := by
  unfold tokL tokE; simp [h, hd, hf]
theorem fits_snoc {ws : List (List Int)} {w : List Int} (h : fits ws = true) (hw : (termB w).length ≤ 64) : fits (ws ++ [w]) = true := by
  unfold fits at *; rw [List.all_append, h]; simp [hw]
theorem fits_no {ws rs : List (List Int)} {w : List Int} (hw : 64 < (termB w).length) : fits (ws ++ w :: rs) = false := by
  unfold fits; rw [List.all_append, List.all_cons]; simp only [decide_eq_false (show ¬ (termB w).length ≤ 64 by omega), Bool.false_and, Bool.and_false]

/-- at place k of a list: what came, what lies open -/
theorem drop_cons {l : List Int} {k : Nat} (h : k < l.length) : l.drop k = l.getD k 0 :: l.drop (k + 1) := by
  rw [List.drop_eq_getElem_cons h, List.getD_eq_getElem?_getD, List.getElem?_eq_getElem h]; rfl
theorem words_letter {m w : List Int} {k : Nat} (h : k < m.length) (hl : letter (m.getD k 0) = true) : wordsG w (m.drop k) = wordsG (w ++ [fold (m.getD k 0)]) (m.drop (k + 1)) := by
  rw [drop_cons h, wordsG, if_pos hl]
theorem words_blank {m : List Int} {k : Nat} (h : k < m.length) (hl : letter (m.getD k 0) = false) : wordsG [] (m.drop k) = wordsG [] (m.drop (k + 1)) := by
  rw [drop_cons h, wordsG, if_neg (by rw [hl]; simp), if_pos rfl]
theorem words_end {m w : List Int} {k : Nat} (h : k < m.length) (hl : letter (m.getD k 0) = false) (hw : w ≠ []) : wordsG w (m.drop k) = w :: wordsG [] (m.drop (k + 1)) := by
  rw [drop_cons h, wordsG, if_neg (by rw [hl]; simp), if_neg hw]

theorem letter_whole {c : Int} (h : letter c = true) : whole c = true := by
  have := letter_iff.1 h; unfold LetterP at this; exact whole_iff.2 (by omega)
theorem fold_letter {c : Int} (h : letter c = true) : letter (fold c) = true := by
  have := letter_iff.1 h
  unfold LetterP at this
  rw [letter_iff]; unfold fold UpP LetterP
  repeat' split
  all_goals omega
theorem fold_letter_not {c : Int} (h : letter c = false) : fold c = c := by
  have : ¬ LetterP c := fun z => by rw [letter_iff.2 z] at h; cases h
  unfold LetterP at this
  unfold fold UpP
  repeat' split
  all_goals omega
theorem letter_fold_eq (c : Int) : letter (fold c) = letter c := by
  cases h : letter c with
  | true => exact fold_letter h
  | false => rw [fold_letter_not h, h]
theorem fold_fold (c : Int) : fold (fold c) = fold c := by
  unfold fold UpP
  repeat' split
  all_goals omega
theorem allW_snoc {w : List Int} {c : Int} (h : allW w = true) (hc : letter c = true) : allW (w ++ [fold c]) = true := by
  rw [allW_iff] at *
  intro x hx
  rcases List.mem_append.1 hx with hx | hx
  · exact h x hx
  · rw [List.mem_singleton] at hx; subst hx; exact letter_whole (fold_letter hc)
theorem encT_of {w : List Int} (h : allW w = true) : encT w = termB w := by unfold encT termB; rw [if_pos h]
theorem encT_one {c : Int} (h : letter c = true) : encT [fold c] = bytesOf (one (fold c)) := by
  rw [encT_of (by have := allW_snoc (w := []) (by simp [allW]) h; exact this)]; simp [termB, enc]

/-! ### by the places at which words begin -/
def restG (b : Bool) (r : List Int) : List (List Int) := if b = true then wordsG [] (r.dropWhile letter ++ [32]) else wordsG [] (r ++ [32])
theorem letter32 : letter 32 = false := by decide +kernel
theorem restG_nil (b : Bool) : restG b [] = [] := by cases b <;> decide +kernel
theorem restG_blank {b : Bool} {c : Int} {r : List Int} (h : letter c = false) : restG b (c :: r) = restG false r := by
  unfold restG
  cases b with
  | true => rw [if_pos rfl, List.dropWhile_cons_of_neg (by simp [h]), List.cons_append, wordsG, if_neg (by rw [h]; simp), if_pos rfl]; rfl
  | false => rw [if_neg (by simp), List.cons_append, wordsG, if_neg (by rw [h]; simp), if_pos rfl]; rfl
theorem restG_in {c : Int} {r : List Int} (h : letter c = true) : restG true (c :: r) = restG true r := by
  unfold restG; rw [if_pos rfl, if_pos rfl, List.dropWhile_cons_of_pos h]
theorem wordsG_open : ∀ (r w : List Int), w ≠ [] → wordsG w (r ++ [32]) = (w ++ (r.takeWhile letter).map fold) :: restG true r
  | [], w, hw => by simp [wordsG, letter32, hw, restG_nil]
  | c :: r, w, hw => by
    cases h : letter c with
    | true =>
      have ih := wordsG_open r (w ++ [fold c]) (by simp)
      rw [List.cons_append, wordsG, if_pos h, ih, restG_in h, List.takeWhile_cons_of_pos h, List.map_cons, List.append_assoc]; rfl
    | false =>
      rw [List.cons_append, wordsG, if_neg (by rw [h]; simp), if_neg hw, restG_blank h, List.takeWhile_cons_of_neg (by simp [h])]
      simp [restG]
theorem restG_begin {c : Int} {r : List Int} (h : letter c = true) : restG false (c :: r) = ((c :: r).takeWhile letter).map fold :: restG true r := by
  have h0 : restG false (c :: r) = wordsG [] (c :: (r ++ [32])) := rfl
  rw [h0, wordsG, if_pos h, List.nil_append, wordsG_open r [fold c] (by simp), List.takeWhile_cons_of_pos h]; rfl
/-- was the character ahead of place i a letter? -/
def bef (l : List Int) (i : Nat) : Bool := if i = 0 then false else letter (l.getD (i - 1) 0)
theorem bef_succ (l : List Int) (i : Nat) : bef l (i + 1) = letter (l.getD i 0) := by simp [bef]
theorem rest_step {l : List Int} {i : Nat} (h : i < l.length) (hs : letter (l.getD i 0) = false ∨ bef l i = true) : restG (bef l i) (l.drop i) = restG (bef l (i + 1)) (l.drop (i + 1)) := by
  rw [drop_cons h, bef_succ]
  cases hl : letter (l.getD i 0) with
  | false => exact restG_blank hl
  | true =>
    have hb := hs.resolve_left (by rw [hl]; simp)
    rw [hb]; exact restG_in hl
theorem take_while_eq {l : List Int} : ∀ {n : Nat}, n ≤ l.length → (∀ j, j < n → letter (l.getD j 0) = true) → (n = l.length ∨ letter (l.getD n 0) = false) → l.takeWhile letter = l.take n := by
  induction l with
  | nil => intro n _ _ _; simp
  | cons c l ih =>
    intro n hn ha hs
    cases n with
    | zero =>
      have : letter c = false := by rcases hs with h | h; cases h; simpa using h
      rw [List.takeWhile_cons_of_neg (by simp [this])]; rfl
    | succ n =>
      have h0 : letter c = true := by have := ha 0 (by omega); simpa using this
      rw [List.takeWhile_cons_of_pos h0, List.take_succ_cons, ih (by simpa using hn) (fun j hj => by have := ha (j + 1) (by omega); simpa using this) (by rcases hs with h | h; left; simpa using h; right; simpa using h)]
theorem rest_word {l : List Int} {i k : Nat} (hik : i ≤ k) (hk : k ≤ l.length) (hi : i < l.length) (hb : bef l i = false) (ha : ∀ j, i ≤ j → j < k → letter (l.getD j 0) = true) (h0 : letter (l.getD i 0) = true) (hs : k = l.length ∨ letter (l.getD k 0) = false) :
    restG (bef l i) (l.drop i) = ((l.drop i).take (k - i)).map fold :: restG (bef l (i + 1)) (l.drop (i + 1)) := by
  have e : (l.drop i).takeWhile letter = (l.drop i).take (k - i) := by
    refine take_while_eq (by rw [List.length_drop]; omega) (fun j hj => ?_) ?_
    · have := ha (i + j) (by omega) (by omega)
      simpa [List.getD_eq_getElem?_getD, List.getElem?_drop] using this
    · rcases hs with h | h
      · left; rw [List.length_drop]; omega
      · right
        rw [show k = i + (k - i) by omega] at h
        simpa [List.getD_eq_getElem?_getD, List.getElem?_drop] using h
  rw [hb, bef_succ, h0, ← e]
  have := drop_cons hi
  rw [this]
  exact restG_begin h0
theorem words_rest (l : List Int) : words l = restG (bef l 0) (l.drop 0) := rfl
theorem part_snoc {l : List Int} {i k : Nat} (hik : i ≤ k) (hk : k < l.length) : (l.drop i).take (k + 1 - i) = (l.drop i).take (k - i) ++ [l.getD k 0] := by
  rw [show k + 1 - i = k - i + 1 by omega, List.take_succ_eq_append_getElem (by rw [List.length_drop]; omega), List.getElem_drop, List.getD_eq_getElem?_getD]
  simp only [show i + (k - i) = k by omega]
  rw [List.getElem?_eq_getElem hk]; rfl
theorem termB_snoc (w : List Int) (c : Int) : termB (w ++ [c]) = termB w ++ bytesOf (one c) := by simp [termB, enc_app, bytesOf_app, enc]
theorem termB_part {l : List Int} {i k : Nat} (hik : i ≤ k) (hk : k < l.length) (hl : letter (l.getD k 0) = true) :
    termB (((l.drop i).take (k + 1 - i)).map fold) = termB (((l.drop i).take (k - i)).map fold) ++ encT [fold (l.getD k 0)] := by
  rw [part_snoc hik hk, List.map_append, List.map_singleton, termB_snoc, encT_one hl]
theorem termB_len (w : List Int) : (termB w).length ≤ 4 * w.length := by unfold termB; rw [bytesOf_len]; exact enc_len w
theorem wordsG_len : ∀ (r w : List Int), (wordsG w r).length ≤ r.length
  | [], w => by simp [wordsG]
  | c :: r, w => by
    unfold wordsG
    have h1 := wordsG_len r (w ++ [fold c])
    have h2 := wordsG_len r []
    split
    · simp only [List.length_cons]; omega
    · split
      · simp only [List.length_cons]; omega
      · simp only [List.length_cons]; omega
theorem words_count {l : List Int} {ws rs : List (List Int)} (h : words l = ws ++ rs) : ws.length ≤ l.length + 1 := by
  have h1 := wordsG_len (l ++ [32]) []
  have h2 := congrArg List.length h
  unfold words at h2
  rw [List.length_append] at h2 h1
  simp only [List.length_singleton] at h1
  omega
theorem ne_of_len {w : List Int} (h : (((List.length w : Nat) : Int) == 0) = false) : w ≠ [] := by
  rintro rfl; simp at h
instance : DecidableEq Tok := fun a b => decidable_of_iff (a.t = b.t ∧ a.a = b.a) (by cases a; cases b; simp)
def foldK (k : Nat) (l : List Int) : List Int := (l.take k).map fold ++ l.drop k
def foldL (s : List UInt8) : List Int := (decL s).map fold
theorem foldK_zero (l : List Int) : foldK 0 l = l := by simp [foldK]
theorem foldK_len (k : Nat) (l : List Int) : (foldK k l).length = l.length := by simp [foldK]; omega
theorem foldK_get {k : Nat} {l : List Int} (h : k < l.length) : (foldK k l).getD k 0 = l.getD k 0 := by
  unfold foldK
  rw [List.getD_eq_getElem?_getD, List.getD_eq_getElem?_getD, List.getElem?_append_right (by simp; omega)]
  simp [Nat.min_eq_left (Nat.le_of_lt h)]
theorem foldK_set {k : Nat} {l : List Int} (h : k < l.length) : (foldK k l).set k (fold (l.getD k 0)) = foldK (k + 1) l := by
  unfold foldK
  rw [take_snoc l h, List.map_append, List.map_singleton, List.append_assoc, drop_cons h, List.set_append_right _ _ (by simp; omega)]
  simp [Nat.min_eq_left (Nat.le_of_lt h)]
theorem foldK_all {k : Nat} {l : List Int} (h : l.length ≤ k) : foldK k l = l.map fold := by
  unfold foldK; rw [List.take_of_length_le h, List.drop_of_length_le h, List.append_nil]
theorem foldL_len (s : List UInt8) : (foldL s).length = (decL s).length := by simp [foldL]
def termE (s : List UInt8) : Int := if tokE s ≠ 0 then tokE s else if (tokL s).length ≠ 1 then 20 else 0
def termS (s : List UInt8) : List UInt8 := if termE s = 0 then ((tokL s).getD 0 (Tok.mk [] 0)).t else []
theorem term_bad {s : List UInt8} (h : tokE s ≠ 0) : termS s = [] ∧ termE s = tokE s := by
  have : termE s = tokE s := by unfold termE; rw [if_pos h]
  exact ⟨by unfold termS; rw [this, if_neg h], this⟩
theorem term_many {s : List UInt8} (h : tokE s = 0) (hl : (tokL s).length ≠ 1) : termS s = [] ∧ termE s = 20 := by
  have : termE s = 20 := by unfold termE; rw [if_neg (fun z => z h), if_pos hl]
  exact ⟨by unfold termS; rw [this, if_neg (by decide)], this⟩
theorem term_one {s : List UInt8} (h : tokE s = 0) (hl : (tokL s).length = 1) : termS s = ((tokL s).getD 0 (Tok.mk [] 0)).t ∧ termE s = 0 := by
  have : termE s = 0 := by unfold termE; rw [if_neg (fun z => z h), if_neg (fun z => z hl)]
  exact ⟨by unfold termS; rw [if_pos this], this⟩
theorem tok_ext {a b : List Tok} (h : a.length = b.length) (h2 : ∀ j, j < a.length → a.getD j (Tok.mk [] 0) = b.getD j (Tok.mk [] 0)) : a = b := by
  apply List.ext_getElem h
  intro j h3 h4
  have := h2 j h3
  simpa [List.getD_eq_getElem?_getD, List.getElem?_eq_getElem h3, List.getElem?_eq_getElem h4] using this
theorem tok_eq {a b : Tok} (h : a.t = b.t ∧ a.a = b.a) : a = b := by cases a; cases b; simp_all
theorem tok_ne {a b : List Tok} {j : Nat} (h : ¬ ((a.getD j (Tok.mk [] 0)).t = (b.getD j (Tok.mk [] 0)).t ∧ (a.getD j (Tok.mk [] 0)).a = (b.getD j (Tok.mk [] 0)).a)) : a ≠ b := by rintro rfl; exact h ⟨rfl, rfl⟩
end Go.TokP

namespace Go.RealP
set_option linter.unusedVariables false
set_option linter.unusedSimpArgs false
open Ieee

def W63 : Nat := 9223372036854775808
def INF : Nat := 9218868437227405312
/-- how far from 0 -/
def rk (n : Nat) : Nat := n % W63
def nan (n : Nat) : Bool := decide (INF < rk n)
def neg (n : Nat) : Bool := n / W63 % 2 == 1
/-- the place in the order -/
def sv (n : Nat) : Int := if neg n then -(rk n : Int) else (rk n : Int)
/-- the number that stands in the order -/
def keyN (n : Nat) : Nat := if nan n then 18446744073709551615 else if rk n = 0 then W63 else if W63 ≤ n then 18446744073709551615 - n else n + W63
def lessB (a b : Nat) : Bool := decide (keyN a < keyN b)
def withinB (x lo hi : Nat) : Bool := !lessB x lo && !lessB hi x

theorem double_sw : double.signWeight = W63 := by decide
theorem double_inf : double.infRung = INF := by decide
theorem double_bin : double.binade = 4503599627370496 := by decide

/-- the value of a rung, in the least unit -/
def val (r : Nat) : Nat := if r < 4503599627370496 then r else (4503599627370496 + r % 4503599627370496) * 2 ^ (r / 4503599627370496 - 1)

theorem val_lt {r s : Nat} (h : r < s) : val r < val s := by
  unfold val
  have pos : ∀ k, 0 < 2 ^ k := fun k => Nat.two_pow_pos k
  split
  · rename_i hr
    split
    · exact h
    · rename_i hs
      have : 4503599627370496 + s % 4503599627370496 ≤ (4503599627370496 + s % 4503599627370496) * 2 ^ (s / 4503599627370496 - 1) := Nat.le_mul_of_pos_right _ (pos _)
      omega
  · rename_i hr
    rw [if_neg (by omega)]
    by_cases e : r / 4503599627370496 = s / 4503599627370496
    · rw [e]
      exact Nat.mul_lt_mul_of_pos_right (by omega) (pos _)
    · have hlt : r / 4503599627370496 < s / 4503599627370496 := by omega
      obtain ⟨d, hd⟩ : ∃ d, s / 4503599627370496 - 1 = (r / 4503599627370496 - 1) + 1 + d := ⟨s / 4503599627370496 - 1 - (r / 4503599627370496 - 1) - 1, by omega⟩
      rw [hd, Nat.pow_add, Nat.pow_add]
      have h1 : (4503599627370496 + r % 4503599627370496) * 2 ^ (r / 4503599627370496 - 1) < 9007199254740992 * 2 ^ (r / 4503599627370496 - 1) := Nat.mul_lt_mul_of_pos_right (by omega) (pos _)
      have h2 : 9007199254740992 * 2 ^ (r / 4503599627370496 - 1) = 4503599627370496 * (2 ^ (r / 4503599627370496 - 1) * 2 ^ 1) := by
        rw [Nat.pow_one, ← Nat.mul_assoc, Nat.mul_right_comm]
      have h3 : 4503599627370496 * (2 ^ (r / 4503599627370496 - 1) * 2 ^ 1) ≤ (4503599627370496 + s % 4503599627370496) * (2 ^ (r / 4503599627370496 - 1) * 2 ^ 1 * 2 ^ d) := by
        refine Nat.mul_le_mul (by omega) (Nat.le_mul_of_pos_right _ (pos _))
      omega

theorem val_cmp (r s : Nat) : compare (val r) (val s) = compare r s := by
  rcases Nat.lt_trichotomy r s with h | h | h
  · rw [Nat.compare_eq_lt.2 (val_lt h), Nat.compare_eq_lt.2 h]
  · subst h; simp
  · rw [Nat.compare_eq_gt.2 (val_lt h), Nat.compare_eq_gt.2 h]

theorem val_zero : val 0 = 0 := by simp [val]
theorem val_pos {r : Nat} (h : 0 < r) : 0 < val r := by have := val_lt h; rwa [val_zero] at this
theorem val_iff (r s : Nat) : (val r < val s ↔ r < s) ∧ (val r = val s ↔ r = s) := by
  rcases Nat.lt_trichotomy r s with h | h | h
  · have := val_lt h; omega
  · subst h; omega
  · have := val_lt h; omega

theorem cmp_of (x y x' y' : Int) (h1 : x < y ↔ x' < y') (h2 : x = y ↔ x' = y') : compare x y = compare x' y' := by
  simp only [compare, compareOfLessAndEq, h1, h2]

def sg (s : Bool) (v : Nat) : Int := if s then -(v : Int) else (v : Int)

theorem cmp_sg (s t : Bool) (r r' : Nat) : compare (sg s (val r)) (sg t (val r')) = compare (sg s r) (sg t r') := by
  have h := val_iff r r'
  have h' := val_iff r' r
  have z := val_iff r 0
  have z' := val_iff r' 0
  rw [val_zero] at z z'
  refine cmp_of _ _ _ _ ?_ ?_ <;> cases s <;> cases t <;> simp only [sg, if_true, if_false, Bool.false_eq_true] <;> omega

theorem cmp_mul (x y : Int) (c : Nat) (hc : 0 < c) : compare (x * c) (y * c) = compare x y := by
  have hc' : (0 : Int) < c := by omega
  refine cmp_of _ _ _ _ ?_ ?_
  · exact Int.mul_lt_mul_right hc'
  · constructor
    · intro h; exact Int.eq_of_mul_eq_mul_right (by omega) h
    · intro h; rw [h]

theorem sg_mul (s : Bool) (m c : Nat) : sg s m * (c : Int) = sg s (m * c) := by
  cases s <;> simp [sg, Int.neg_mul]

theorem signed_sg (s : Bool) (m k : Nat) : signed s m k = sg s (m * 2 ^ k) := by
  unfold signed sg; rw [Nat.shiftLeft_eq]

theorem read_fin {n : Nat} (h : rk n < INF) : ∃ m p : Nat, double.read n = .number (neg n) m (double.leastPlace + (p : Int)) ∧ m * 2 ^ p = val (rk n) := by
  unfold Format.read
  simp only [double_sw, double_inf, double_bin]
  unfold rk at h
  by_cases hb : n % W63 < 4503599627370496
  · rw [if_pos hb]
    refine ⟨n % W63, 0, by simp [neg], ?_⟩
    unfold val rk
    rw [if_pos hb]; omega
  · rw [if_neg hb, if_pos h]
    refine ⟨4503599627370496 + n % W63 % 4503599627370496, n % W63 / 4503599627370496 - 1, rfl, ?_⟩
    unfold val rk
    rw [if_neg hb]

theorem read_inf {n : Nat} (h : rk n = INF) : double.read n = .infinity (neg n) := by
  unfold Format.read
  simp only [double_sw, double_inf, double_bin]
  unfold rk at h
  rw [if_neg (by rw [h]; decide), if_neg (by omega), if_pos h]
  rfl

theorem read_nan {n : Nat} (h : INF < rk n) : ∃ f, double.read n = .nan (neg n) f := by
  unfold Format.read
  simp only [double_sw, double_inf, double_bin]
  unfold rk at h
  have : 4503599627370496 < INF := by decide
  rw [if_neg (by omega), if_neg (by omega), if_neg (by omega)]
  exact ⟨_, rfl⟩

theorem sv_sg (n : Nat) : sv n = sg (neg n) (rk n) := rfl

theorem order_num (s t : Bool) (m n : Nat) (L : Int) (p q : Nat) : (Datum.number s m (L + (p : Int))).order (.number t n (L + (q : Int))) = some (compare (sg s (m * 2 ^ p)) (sg t (n * 2 ^ q))) := by
  simp only [Datum.order, signed_sg]
  congr 1
  rcases Nat.le_total p q with h | h
  · have e1 : min (L + (p : Int)) (L + (q : Int)) = L + p := by omega
    rw [e1, show (L + (p : Int) - (L + p)).toNat = 0 by omega, show (L + (q : Int) - (L + p)).toNat = q - p by omega]
    rw [← cmp_mul _ _ (2 ^ p) (Nat.two_pow_pos p), sg_mul, sg_mul, Nat.pow_zero, Nat.mul_one, Nat.mul_assoc, ← Nat.pow_add, Nat.sub_add_cancel h]
  · have e1 : min (L + (p : Int)) (L + (q : Int)) = L + q := by omega
    rw [e1, show (L + (p : Int) - (L + q)).toNat = p - q by omega, show (L + (q : Int) - (L + q)).toNat = 0 by omega]
    rw [← cmp_mul _ _ (2 ^ q) (Nat.two_pow_pos q), sg_mul, sg_mul, Nat.pow_zero, Nat.mul_one, Nat.mul_assoc, ← Nat.pow_add, Nat.sub_add_cancel h]

/-- two floats in the machine's order -/
theorem order_spec (a b : Nat) : double.order a b = if nan a || nan b then none else some (compare (sv a) (sv b)) := by
  unfold Format.order
  by_cases ha : INF < rk a
  · obtain ⟨f, e⟩ := read_nan ha
    simp [e, Datum.order, nan, ha]
  by_cases hb : INF < rk b
  · obtain ⟨f, e⟩ := read_nan hb
    rw [e]
    simp only [nan, hb, decide_true, Bool.or_true, if_true]
    cases double.read a <;> simp [Datum.order]
  simp only [nan, ha, hb, decide_false, Bool.or_false, Bool.false_eq_true, if_false]
  rcases Nat.lt_or_ge (rk a) INF with ha' | ha'
  · obtain ⟨m, p, ea, hm⟩ := read_fin ha'
    rcases Nat.lt_or_ge (rk b) INF with hb' | hb'
    · obtain ⟨n, q, eb, hn⟩ := read_fin hb'
      rw [ea, eb, order_num, hm, hn, cmp_sg, ← sv_sg, ← sv_sg]
    · have hb2 : rk b = INF := by omega
      rw [ea, read_inf hb2]
      simp only [Datum.order, sv_sg, hb2]
      congr 1
      cases neg b <;> simp only [sg, if_true, if_false, Bool.false_eq_true]
      · symm
        simp only [compare, compareOfLessAndEq]
        rw [if_pos (by split <;> omega)]
      · symm
        simp only [compare, compareOfLessAndEq]
        rw [if_neg (by split <;> omega), if_neg (by split <;> omega)]
  · have ha2 : rk a = INF := by omega
    rw [read_inf ha2]
    rcases Nat.lt_or_ge (rk b) INF with hb' | hb'
    · obtain ⟨n, q, eb, hn⟩ := read_fin hb'
      rw [eb]
      simp only [Datum.order, sv_sg, ha2]
      congr 1
      cases neg a <;> simp only [sg, if_true, if_false, Bool.false_eq_true]
      · symm
        simp only [compare, compareOfLessAndEq]
        rw [if_neg (by split <;> omega), if_neg (by split <;> omega)]
      · symm
        simp only [compare, compareOfLessAndEq]
        rw [if_pos (by split <;> omega)]
    · have hb2 : rk b = INF := by omega
      rw [read_inf hb2]
      simp only [Datum.order, sv_sg, ha2, hb2]
      congr 1
      cases neg a <;> cases neg b <;> decide

theorem order_self (a : Nat) : (double.order a a != some .eq) = nan a := by
  rw [order_spec]
  cases h : nan a <;> simp
theorem order_zero (a : Nat) : (double.order a 0 == some .eq) = decide (rk a = 0) := by
  rw [order_spec]
  have h0 : nan 0 = false := by decide
  have s0 : sv 0 = 0 := by decide
  rw [h0, s0, Bool.or_false]
  cases h : nan a
  · have key : compare (sv a) 0 = .eq ↔ rk a = 0 := by
      rw [Int.compare_eq_eq]
      unfold sv
      split <;> omega
    simp only [Bool.false_eq_true, if_false]
    by_cases e : rk a = 0
    · simp [e, key.2 e]
    · have : compare (sv a) 0 ≠ .eq := fun h => e (key.1 h)
      simp [e, this]
  · have : INF < rk a := by simpa [nan] using h
    have : ¬ rk a = 0 := by have := (by decide : 0 < INF); omega
    simp [this]

/-- the keys stand as the numbers do -/
theorem key_lt_iff {a b : Nat} (ha : a < 18446744073709551616) (hb : b < 18446744073709551616) (na : nan a = false) (nb : nan b = false) : keyN a < keyN b ↔ sv a < sv b := by
  have hi : INF < W63 := by decide
  have hw : W63 = 9223372036854775808 := rfl
  have e : ∀ n, n < 18446744073709551616 → neg n = decide (W63 ≤ n) := by
    intro n hn
    unfold neg
    rw [hw]
    have : n / 9223372036854775808 = if 9223372036854775808 ≤ n then 1 else 0 := by split <;> omega
    rw [this]; split <;> simp [*]
  have na' : ¬ INF < rk a := by simpa [nan] using na
  have nb' : ¬ INF < rk b := by simpa [nan] using nb
  unfold keyN sv
  rw [na, nb, e a ha, e b hb]
  simp only [Bool.false_eq_true, if_false, decide_eq_true_eq]
  unfold rk at *
  rw [hw] at *
  repeat' split
  all_goals omega
theorem key_eq_nan {a : Nat} (h : nan a = true) : keyN a = 18446744073709551615 := by simp [keyN, h]
theorem key_lt_top {a : Nat} (ha : a < 18446744073709551616) (h : nan a = false) : keyN a < 18446744073709551615 := by
  have hi : INF < 9223372036854775807 := by decide
  have hw : W63 = 9223372036854775808 := rfl
  have na' : ¬ INF < rk a := by simpa [nan] using h
  unfold keyN
  rw [h]
  unfold rk at *
  rw [hw] at *
  simp only [Bool.false_eq_true, if_false]
  repeat' split
  all_goals omega
theorem key_le {a : Nat} (ha : a < 18446744073709551616) : keyN a ≤ 18446744073709551615 := by
  cases h : nan a
  · have := key_lt_top ha h; omega
  · rw [key_eq_nan h]; omega

end Go.RealP

namespace Go.RealQ
set_option linter.unusedVariables false
set_option linter.unusedSimpArgs false
theorem log2_eq {n k : Nat} (h1 : 2 ^ k ≤ n) (h2 : n < 2 ^ (k + 1)) : n.log2 = k := by
  have hn : n ≠ 0 := by have := Nat.two_pow_pos k; omega
  have a := (Nat.le_log2 hn).2 h1
  have b := (Nat.log2_lt hn).2 h2
  omega
theorem log2_bd {n : Nat} (h : 0 < n) : 2 ^ n.log2 ≤ n ∧ n < 2 ^ (n.log2 + 1) := ⟨Nat.log2_self_le (by omega), Nat.lt_log2_self⟩
theorem d_binade : Ieee.double.binade = 4503599627370496 := by decide +kernel
theorem d_inf : Ieee.double.infRung = 9218868437227405312 := by decide +kernel
theorem d_sign : Ieee.double.signWeight = 9223372036854775808 := by decide +kernel
theorem d_least : Ieee.double.leastPlace = -1074 := by decide +kernel
theorem d_frac : Ieee.double.fractionBits = 52 := rfl
abbrev near (x : Nat) : Nat := FloatKind.nearest .f64 ((x : Nat) : Int)
theorem near_eq (x : Nat) : near x = Ieee.double.nearest false x 0 := by
  show Ieee.double.write (.number (decide (((x : Nat) : Int) < 0)) ((x : Nat) : Int).natAbs 0) = _
  rw [decide_eq_false (by omega), Int.natAbs_natCast]; rfl
theorem word_false (f : Ieee.Format) (r : Nat) : f.word false r = r := rfl
theorem cut0 (n : Nat) : Ieee.Toward.even.cut false n 0 = n := by
  simp [Ieee.Toward.cut, Nat.mod_one]
theorem read_of {f : Ieee.Format} {w : Nat} (h1 : w < f.signWeight) (h2 : ¬ w < f.binade) (h3 : w < f.infRung) : f.read w = .number false (f.binade + w % f.binade) (f.leastPlace + ((w / f.binade - 1 : Nat) : Int)) := by
  unfold Ieee.Format.read
  simp only [Nat.div_eq_of_lt h1, Nat.mod_eq_of_lt h1]
  rw [if_neg h2, if_pos h3]
  rfl
theorem nearest_of {f : Ieee.Format} {mag kept : Nat} {place last : Int} (hm : mag ≠ 0) (hl : max (place + mag.log2 - f.fractionBits) f.leastPlace = last) (hk : Ieee.Toward.even.cut false (mag <<< (place - last).toNat) (last - place).toNat = kept)
    (hi : (last - f.leastPlace).toNat * f.binade + kept ≤ f.infRung) : f.nearest false mag place = (last - f.leastPlace).toNat * f.binade + kept := by
  unfold Ieee.Format.nearest
  rw [if_neg hm]
  simp only [hl, hk]
  rw [word_false, Nat.min_eq_left hi]
theorem cut_of {n drop gap : Nat} (h : 1 <<< min drop (n.log2 + 2) = gap) : Ieee.Toward.even.cut false n drop = n / gap + (decide (gap < 2 * (n % gap)) || (gap == 2 * (n % gap) && n / gap % 2 == 1)).toNat := by
  unfold Ieee.Toward.cut
  simp only [h]
theorem quotient_of {digits m n : Nat} {s t : Bool} {i j : Int} (hn : n ≠ 0) : (Ieee.Datum.number s m i).quotient digits (.number t n j) = some (.number (s ^^ t) (2 * ((m <<< (digits + n.log2 - m.log2)) / n) + ((m <<< (digits + n.log2 - m.log2)) % n != 0).toNat) (i - j - ((digits + n.log2 - m.log2 : Nat) : Int) - 1)) := by
  show (if n = 0 then _ else _) = _
  rw [if_neg hn]
theorem toNat_if {q : Nat} (b : Bool) (p : Prop) [Decidable p] (h : b = true ↔ p) : q + b.toNat = q + if p then 1 else 0 := by
  cases b with
  | true => rw [if_pos (h.1 rfl)]; rfl
  | false => rw [if_neg (fun z => Bool.noConfusion (h.2 z))]; rfl
theorem mant {x : Nat} (h : 0 < x) (h2 : x < 9007199254740992) : x.log2 ≤ 52 ∧ 4503599627370496 ≤ x * 2 ^ (52 - x.log2) ∧ x * 2 ^ (52 - x.log2) < 9007199254740992 := by
  have hb := log2_bd h
  have hl : x.log2 ≤ 52 := by
    have := (Nat.log2_lt (show x ≠ 0 by omega)).2 (show x < 2 ^ 53 by omega)
    omega
  refine ⟨hl, ?_, ?_⟩
  · calc 4503599627370496 = 2 ^ x.log2 * 2 ^ (52 - x.log2) := by rw [← Nat.pow_add, show x.log2 + (52 - x.log2) = 52 by omega]
      _ ≤ _ := Nat.mul_le_mul_right _ hb.1
  · calc x * 2 ^ (52 - x.log2) < 2 ^ (x.log2 + 1) * 2 ^ (52 - x.log2) := Nat.mul_lt_mul_of_pos_right hb.2 (Nat.two_pow_pos _)
      _ = 9007199254740992 := by rw [← Nat.pow_add, show x.log2 + 1 + (52 - x.log2) = 53 by omega]
theorem near_word {x : Nat} (h : 0 < x) (h2 : x < 9007199254740992) : near x = (x.log2 + 1022) * 4503599627370496 + x * 2 ^ (52 - x.log2) := by
  obtain ⟨hl, h3, h4⟩ := mant h h2
  have e1 : max ((0 : Int) + ((x.log2 : Nat) : Int) - ((Ieee.double.fractionBits : Nat) : Int)) Ieee.double.leastPlace = ((x.log2 : Nat) : Int) - 52 := by rw [d_least, d_frac]; omega
  have e2 : ((0 : Int) - (((x.log2 : Nat) : Int) - 52)).toNat = 52 - x.log2 := by omega
  have e3 : ((((x.log2 : Nat) : Int) - 52) - 0).toNat = 0 := by omega
  have e4 : ((((x.log2 : Nat) : Int) - 52) - Ieee.double.leastPlace).toNat = x.log2 + 1022 := by rw [d_least]; omega
  have key := nearest_of (f := Ieee.double) (mag := x) (place := 0) (last := ((x.log2 : Nat) : Int) - 52) (kept := x * 2 ^ (52 - x.log2)) (by omega) e1 (by rw [e2, e3, cut0, Nat.shiftLeft_eq]) (by rw [e4, d_binade, d_inf]; omega)
  rw [near_eq, key, e4, d_binade]
theorem near_read {x : Nat} (h : 0 < x) (h2 : x < 9007199254740992) : Ieee.double.read (near x) = .number false (x * 2 ^ (52 - x.log2)) (((x.log2 : Nat) : Int) - 52) := by
  obtain ⟨hl, h3, h4⟩ := mant h h2
  rw [near_word h h2]
  generalize x * 2 ^ (52 - x.log2) = m at *
  generalize x.log2 = l at *
  rw [read_of (by rw [d_sign]; omega) (by rw [d_binade]; omega) (by rw [d_inf]; omega), d_binade, d_least]
  have e1 : ((l + 1022) * 4503599627370496 + m) / 4503599627370496 = l + 1023 := by omega
  have e2 : ((l + 1022) * 4503599627370496 + m) % 4503599627370496 = m - 4503599627370496 := by omega
  have e3 : 4503599627370496 + (m - 4503599627370496) = m := by omega
  have e4 : (-1074 : Int) + ((l + 1023 - 1 : Nat) : Int) = ((l : Nat) : Int) - 52 := by omega
  rw [e1, e2, e3, e4]
/-- a half above, to the even one where it is just a half -/
def rndQ (q : Nat) (s : Bool) : Nat := q / 2 + (if q % 2 = 1 ∧ (s = true ∨ q / 2 % 2 = 1) then 1 else 0)
theorem rndQ_le {q : Nat} {s : Bool} (h : q < 18014398509481984) : rndQ q s ≤ 9007199254740992 := by unfold rndQ; split <;> omega
theorem rndQ_ge {q : Nat} {s : Bool} (h : 9007199254740992 ≤ q) : 4503599627370496 ≤ rndQ q s := by unfold rndQ; split <;> omega
theorem cut_two {q t : Nat} (ht : t ≤ 1) (h1 : 9007199254740992 ≤ q) (h2 : q < 18014398509481984) : (2 * q + t).log2 = 54 ∧ Ieee.Toward.even.cut false (2 * q + t) 2 = rndQ q (decide (t = 1)) := by
  have p1 : (2 : Nat) ^ 54 = 18014398509481984 := by decide
  have p2 : (2 : Nat) ^ (54 + 1) = 36028797018963968 := by decide
  have hl : (2 * q + t).log2 = 54 := log2_eq (by rw [p1]; omega) (by rw [p2]; omega)
  refine ⟨hl, ?_⟩
  rw [cut_of (gap := 4) (by rw [hl]; decide)]
  have e1 : (2 * q + t) / 4 = q / 2 := by omega
  have e2 : (2 * q + t) % 4 = 2 * (q % 2) + t := by omega
  rw [e1, e2]
  unfold rndQ
  refine toNat_if _ _ ?_
  simp only [Bool.or_eq_true, Bool.and_eq_true, decide_eq_true_eq, beq_iff_eq]
  omega
theorem cut_three {q t : Nat} (ht : t ≤ 1) (h1 : 18014398509481984 ≤ q) (h2 : q < 36028797018963968) : (2 * q + t).log2 = 55 ∧ Ieee.Toward.even.cut false (2 * q + t) 3 = rndQ (q / 2) (decide (t = 1) || q % 2 == 1) := by
  have p1 : (2 : Nat) ^ 55 = 36028797018963968 := by decide
  have p2 : (2 : Nat) ^ (55 + 1) = 72057594037927936 := by decide
  have hl : (2 * q + t).log2 = 55 := log2_eq (by rw [p1]; omega) (by rw [p2]; omega)
  refine ⟨hl, ?_⟩
  rw [cut_of (gap := 8) (by rw [hl]; decide)]
  have e1 : (2 * q + t) / 8 = q / 2 / 2 := by omega
  have e2 : (2 * q + t) % 8 = 2 * (q % 4) + t := by omega
  rw [e1, e2]
  unfold rndQ
  refine toNat_if _ _ ?_
  simp only [Bool.or_eq_true, Bool.and_eq_true, decide_eq_true_eq, beq_iff_eq]
  omega
theorem write_of {mag j drop kept : Nat} (hm : 0 < mag) (hlog : mag.log2 = 52 + drop) (hj : j + 1 ≤ 1000) (hd : drop ≤ 10) (hk : Ieee.Toward.even.cut false mag drop = kept) (hk2 : kept ≤ 9007199254740992) :
    Ieee.double.write (.number false mag (-((j : Nat) : Int) - 1)) = (1073 + drop - j) * 4503599627370496 + kept := by
  have e1 : max ((-((j : Nat) : Int) - 1) + ((mag.log2 : Nat) : Int) - ((Ieee.double.fractionBits : Nat) : Int)) Ieee.double.leastPlace = ((drop : Nat) : Int) - ((j : Nat) : Int) - 1 := by rw [d_least, d_frac, hlog]; omega
  have e2 : ((-((j : Nat) : Int) - 1) - (((drop : Nat) : Int) - ((j : Nat) : Int) - 1)).toNat = 0 := by omega
  have e3 : ((((drop : Nat) : Int) - ((j : Nat) : Int) - 1) - (-((j : Nat) : Int) - 1)).toNat = drop := by omega
  have e4 : ((((drop : Nat) : Int) - ((j : Nat) : Int) - 1) - Ieee.double.leastPlace).toNat = 1073 + drop - j := by rw [d_least]; omega
  have key := nearest_of (f := Ieee.double) (mag := mag) (place := -((j : Nat) : Int) - 1) (last := ((drop : Nat) : Int) - ((j : Nat) : Int) - 1) (kept := kept) (by omega) e1 (by rw [e2, e3, Nat.shiftLeft_zero]; exact hk) (by rw [e4, d_binade, d_inf]; omega)
  rw [e4, d_binade] at key
  exact key
theorem div_up {a b k : Nat} (hb : 0 < b) (d : Nat) : (a * 2 ^ k / b) * 2 ^ d ≤ a * 2 ^ (k + d) / b := by
  rw [Nat.le_div_iff_mul_le hb, Nat.pow_add, ← Nat.mul_assoc]
  calc a * 2 ^ k / b * 2 ^ d * b = (a * 2 ^ k / b * b) * 2 ^ d := by rw [Nat.mul_right_comm]
    _ ≤ _ := Nat.mul_le_mul_right _ (Nat.div_mul_le_self _ _)
theorem div_half {a b k : Nat} (hb : 0 < b) : a * 2 ^ (k + 1) / b / 2 = a * 2 ^ k / b ∧ (decide (0 < a * 2 ^ k % b) = (decide (0 < a * 2 ^ (k + 1) % b) || a * 2 ^ (k + 1) / b % 2 == 1)) := by
  rw [Nat.pow_succ, ← Nat.mul_assoc]
  generalize a * 2 ^ k = z
  have h1 := Nat.div_add_mod z b
  have h2 := Nat.mod_lt z hb
  generalize hq : z / b = q at *
  generalize hr : z % b = r at *
  have hz : z * 2 = b * (2 * q) + 2 * r := by rw [← h1, Nat.add_mul, Nat.mul_comm 2 q, ← Nat.mul_assoc, Nat.mul_comm r 2]
  rcases Nat.lt_or_ge (2 * r) b with h | h
  · have e1 : z * 2 / b = 2 * q := by rw [hz, Nat.mul_add_div hb, Nat.div_eq_of_lt h]; rfl
    have e2 : z * 2 % b = 2 * r := by rw [hz, Nat.mul_add_mod, Nat.mod_eq_of_lt h]
    rw [e1, e2]
    refine ⟨by omega, ?_⟩
    have : (2 * q) % 2 = 0 := by omega
    rw [this]
    rcases Nat.eq_zero_or_pos r with e | e
    · simp [e]
    · simp [e]
  · have e1 : z * 2 / b = 2 * q + 1 := by
      rw [hz, show b * (2 * q) + 2 * r = b * (2 * q + 1) + (2 * r - b) by rw [Nat.mul_add]; omega, Nat.mul_add_div hb, Nat.div_eq_of_lt (by omega)]
    rw [e1]
    refine ⟨by omega, ?_⟩
    have : (2 * q + 1) % 2 = 1 := by omega
    rw [this]
    have hr0 : 0 < r := by omega
    simp [hr0]
theorem lo_bd {a b c la lb j : Nat} (hA : 2 ^ la ≤ a) (hB : b < 2 ^ (lb + 1)) (e : c + (lb + 1) = la + j) : 2 ^ c * b ≤ a * 2 ^ j :=
  calc 2 ^ c * b ≤ 2 ^ c * 2 ^ (lb + 1) := Nat.mul_le_mul (Nat.le_refl _) (Nat.le_of_lt hB)
    _ = 2 ^ la * 2 ^ j := by rw [← Nat.pow_add, ← Nat.pow_add, e]
    _ ≤ a * 2 ^ j := Nat.mul_le_mul hA (Nat.le_refl _)
theorem hi_bd {a b c la lb j : Nat} (hA : a < 2 ^ (la + 1)) (hB : 2 ^ lb ≤ b) (e : la + 1 + j = c + lb) : a * 2 ^ j < 2 ^ c * b :=
  calc a * 2 ^ j < 2 ^ (la + 1) * 2 ^ j := Nat.mul_lt_mul_of_pos_right hA (Nat.two_pow_pos _)
    _ = 2 ^ c * 2 ^ lb := by rw [← Nat.pow_add, ← Nat.pow_add, e]
    _ ≤ 2 ^ c * b := Nat.mul_le_mul (Nat.le_refl _) hB
theorem p53 : 9007199254740992 = 2 ^ 53 := by decide
theorem p55 : 36028797018963968 = 2 ^ 55 := by decide
/-- what the division gives -/
theorem div_ratio {a b k : Nat} (ha : 0 < a) (ha2 : a < 9007199254740992) (hb : 0 < b) (hb2 : b < 9007199254740992) (h1 : 9007199254740992 ≤ a * 2 ^ k / b) (h2 : a * 2 ^ k / b < 18014398509481984) (hk : k ≤ 500) :
    Ieee.double.div (near a) (near b) = some ((1075 - k) * 4503599627370496 + rndQ (a * 2 ^ k / b) (decide (0 < a * 2 ^ k % b))) := by
  obtain ⟨la, ma1, ma2⟩ := mant ha ha2
  obtain ⟨lb, mb1, mb2⟩ := mant hb hb2
  have lga : (a * 2 ^ (52 - a.log2)).log2 = 52 := log2_eq ma1 ma2
  have lgb : (b * 2 ^ (52 - b.log2)).log2 = 52 := log2_eq mb1 mb2
  obtain ⟨j, hj⟩ : ∃ j, j = 54 + b.log2 - a.log2 := ⟨_, rfl⟩
  have e0 : (a * 2 ^ (52 - a.log2)) <<< 54 = (a * 2 ^ j) * 2 ^ (52 - b.log2) := by
    rw [Nat.shiftLeft_eq, Nat.mul_assoc, Nat.mul_assoc, ← Nat.pow_add, ← Nat.pow_add]; congr 2; omega
  have c0 := Nat.two_pow_pos (52 - b.log2)
  have eq1 : (a * 2 ^ j) * 2 ^ (52 - b.log2) / (b * 2 ^ (52 - b.log2)) = a * 2 ^ j / b := Nat.mul_div_mul_right _ _ c0
  have eq2 : (a * 2 ^ j) * 2 ^ (52 - b.log2) % (b * 2 ^ (52 - b.log2)) = (a * 2 ^ j % b) * 2 ^ (52 - b.log2) := Nat.mul_mod_mul_right _ _ _
  have es : ((a * 2 ^ j % b) * 2 ^ (52 - b.log2) != 0) = decide (0 < a * 2 ^ j % b) := by
    rcases Nat.eq_zero_or_pos (a * 2 ^ j % b) with e | e
    · rw [e]; simp
    · have : 0 < (a * 2 ^ j % b) * 2 ^ (52 - b.log2) := Nat.mul_pos e c0
      rw [decide_eq_true e, bne_iff_ne]; omega
  have hA := log2_bd ha
  have hB := log2_bd hb
  have lo : 9007199254740992 ≤ a * 2 ^ j / b := by
    rw [Nat.le_div_iff_mul_le hb]
    rw [p53]
    exact lo_bd hA.1 hB.2 (by omega)
  have hi : a * 2 ^ j / b < 36028797018963968 := by
    rw [Nat.div_lt_iff_lt_mul hb, p55]
    exact hi_bd hA.2 hB.1 (by omega)
  have hjk : j = k ∨ j = k + 1 := by
    rcases Nat.lt_or_ge j k with h | h
    · have := div_up (a := a) (k := j) hb (k - j)
      rw [show j + (k - j) = k by omega] at this
      have h3 : 2 ^ 1 ≤ 2 ^ (k - j) := Nat.pow_le_pow_right (by decide) (by omega)
      have h4 : 9007199254740992 * 2 ≤ a * 2 ^ j / b * 2 ^ (k - j) := Nat.mul_le_mul lo h3
      omega
    · rcases Nat.lt_or_ge (k + 1) j with h' | h'
      · have := div_up (a := a) (k := k) hb (j - k)
        rw [show k + (j - k) = j by omega] at this
        have h3 : 2 ^ 2 ≤ 2 ^ (j - k) := Nat.pow_le_pow_right (by decide) (by omega)
        have h4 : 9007199254740992 * 4 ≤ a * 2 ^ k / b * 2 ^ (j - k) := Nat.mul_le_mul h1 h3
        omega
      · omega
  unfold Ieee.Format.div
  rw [near_read ha ha2, near_read hb hb2, quotient_of (by omega), lga, lgb, d_frac]
  have em : 52 + 2 + 52 - 52 = 54 := by decide
  rw [em, e0, eq1, eq2, es]
  have ep : (((a.log2 : Nat) : Int) - 52 - (((b.log2 : Nat) : Int) - 52) - ((54 : Nat) : Int) - 1) = -((j : Nat) : Int) - 1 := by omega
  rw [ep, Option.map_some]
  have ef : (false ^^ false) = false := rfl
  rw [ef]
  have et : (decide (0 < a * 2 ^ j % b)).toNat ≤ 1 := Bool.toNat_le _
  have ed : decide ((decide (0 < a * 2 ^ j % b)).toNat = 1) = decide (0 < a * 2 ^ j % b) := by cases decide (0 < a * 2 ^ j % b) <;> rfl
  rcases hjk with e | e
  · subst e
    obtain ⟨c1, c2⟩ := cut_two et h1 h2
    rw [ed] at c2
    rw [write_of (drop := 2) (by omega) c1 (by omega) (by omega) c2 (rndQ_le h2)]
  · have ek : k = j - 1 := by omega
    obtain ⟨d1, d2⟩ := div_half (a := a) (b := b) (k := k) hb
    rw [← e] at d1 d2
    obtain ⟨c1, c2⟩ := cut_three et (by omega) hi
    rw [ed, ← d2, d1] at c2
    rw [write_of (drop := 3) (by omega) c1 (by omega) (by omega) c2 (rndQ_le h2), show 1073 + 3 - j = 1075 - k by omega]
theorem near_zero : near 0 = 0 := by decide +kernel
theorem div_zero {b : Nat} (hb : 0 < b) (hb2 : b < 9007199254740992) : Ieee.double.div (near 0) (near b) = some 0 := by
  obtain ⟨lb, mb1, mb2⟩ := mant hb hb2
  unfold Ieee.Format.div
  have e : Ieee.double.read (near 0) = .number false 0 (-1074) := by decide +kernel
  rw [near_read hb hb2, e, quotient_of (by omega), Option.map_some, Nat.zero_shiftLeft, Nat.zero_div, Nat.zero_mod]
  have e2 : 2 * 0 + ((0 : Nat) != 0).toNat = 0 := by decide
  rw [e2]
  have e3 : ∀ p, Ieee.double.write (.number (false ^^ false) 0 p) = 0 := by
    intro p
    show Ieee.double.nearest _ 0 p = 0
    unfold Ieee.Format.nearest
    rw [if_pos rfl]; rfl
  rw [e3]
def ratN (a b : Nat) : Nat := (Ieee.double.div (near a) (near b)).getD 0
theorem ratN_k {a b : Nat} (ha : 0 < a) (ha2 : a < 9007199254740992) (hb : 0 < b) (hb2 : b < 9007199254740992) : ∃ k, 9007199254740992 ≤ a * 2 ^ k / b ∧ a * 2 ^ k / b < 18014398509481984 ∧ k ≤ 500 := by
  have hA := log2_bd ha
  have hB := log2_bd hb
  obtain ⟨la, _, _⟩ := mant ha ha2
  obtain ⟨lb, _, _⟩ := mant hb hb2
  have lo : 9007199254740992 ≤ a * 2 ^ (54 + b.log2 - a.log2) / b := by
    rw [Nat.le_div_iff_mul_le hb]
    rw [p53]
    exact lo_bd hA.1 hB.2 (by omega)
  have hi : a * 2 ^ (54 + b.log2 - a.log2) / b < 36028797018963968 := by
    rw [Nat.div_lt_iff_lt_mul hb, p55]
    exact hi_bd hA.2 hB.1 (by omega)
  rcases Nat.lt_or_ge (a * 2 ^ (54 + b.log2 - a.log2) / b) 18014398509481984 with h | h
  · exact ⟨_, lo, h, by omega⟩
  · obtain ⟨d1, _⟩ := div_half (a := a) (b := b) (k := 53 + b.log2 - a.log2) hb
    rw [show 53 + b.log2 - a.log2 + 1 = 54 + b.log2 - a.log2 by omega] at d1
    exact ⟨53 + b.log2 - a.log2, by omega, by omega, by omega⟩
theorem ratN_some {a b : Nat} (ha2 : a < 9007199254740992) (hb : 0 < b) (hb2 : b < 9007199254740992) : Ieee.double.div (near a) (near b) = some (ratN a b) := by
  rcases Nat.eq_zero_or_pos a with rfl | ha
  · unfold ratN; rw [div_zero hb hb2]; rfl
  · obtain ⟨k, h1, h2, h3⟩ := ratN_k ha ha2 hb hb2
    unfold ratN; rw [div_ratio ha ha2 hb hb2 h1 h2 h3]; rfl
theorem ratN_of {a b k : Nat} (ha : 0 < a) (ha2 : a < 9007199254740992) (hb : 0 < b) (hb2 : b < 9007199254740992) (h1 : 9007199254740992 ≤ a * 2 ^ k / b) (h2 : a * 2 ^ k / b < 18014398509481984) (hk : k ≤ 500) :
    ratN a b = (1075 - k) * 4503599627370496 + rndQ (a * 2 ^ k / b) (decide (0 < a * 2 ^ k % b)) := by
  unfold ratN; rw [div_ratio ha ha2 hb hb2 h1 h2 hk]; rfl
theorem ratN_zero {b : Nat} (hb : 0 < b) (hb2 : b < 9007199254740992) : ratN 0 b = 0 := by unfold ratN; rw [div_zero hb hb2]; rfl
end Go.RealQ

namespace Go.RealQ
open Go.Gw
set_option linter.unusedVariables false
set_option linter.unusedSimpArgs false
def most (p : Bool) : Nat := bif p then 3 else 12
/-- what stands in the text: a number and how many places it has; none: no number -/
def scan (p : Bool) (n d : Nat) : List UInt8 → Option (Nat × Nat)
  | [] => if d = 0 then none else some (n, bif p then d else 0)
  | c :: t =>
    if c.toNat = 46 ∧ p = false ∧ 0 < d then scan true n 0 t
    else if 48 ≤ c.toNat ∧ c.toNat ≤ 57 ∧ d < most p then scan p (10 * n + (c.toNat - 48)) (d + 1) t
    else none
theorem drop_at {s : List UInt8} {k : Nat} (h : k < s.length) : ∃ c, s.drop k = c :: s.drop (k + 1) ∧ bl s k = ((c.toNat : Nat) : Int) := by
  refine ⟨s[k], List.drop_eq_getElem_cons h, ?_⟩
  unfold bl
  rw [List.getD_eq_getElem?_getD, List.getElem?_eq_getElem h]; rfl
section
variable {s : List UInt8} {p : Bool} {n d k : Nat}
theorem scan_end (h : ¬ k < s.length) : scan p n d (s.drop k) = if d = 0 then none else some (n, bif p then d else 0) := by
  rw [List.drop_eq_nil_of_le (by omega)]; rfl
theorem scan_point (h : k < s.length) (h1 : bl s k = 46) (h2 : 0 < d) : scan false n d (s.drop k) = scan true n 0 (s.drop (k + 1)) := by
  obtain ⟨c, e, hc⟩ := drop_at h
  rw [e, scan, if_pos ⟨by omega, rfl, h2⟩]
theorem scan_digit (h : k < s.length) (h1 : 48 ≤ bl s k) (h2 : bl s k ≤ 57) (h3 : d < most p) : scan p n d (s.drop k) = scan p (10 * n + ((bl s k).toNat - 48)) (d + 1) (s.drop (k + 1)) := by
  obtain ⟨c, e, hc⟩ := drop_at h
  rw [e, scan, if_neg (by omega), if_pos ⟨by omega, by omega, h3⟩, hc]; rfl
theorem scan_none (h : k < s.length) (h1 : ¬ (bl s k = 46 ∧ p = false ∧ 0 < d)) (h2 : ¬ (48 ≤ bl s k ∧ bl s k ≤ 57 ∧ d < most p)) : scan p n d (s.drop k) = none := by
  obtain ⟨c, e, hc⟩ := drop_at h
  rw [e, scan, if_neg (fun z => h1 ⟨by omega, z.2⟩), if_neg (fun z => h2 ⟨by omega, by omega, z.2.2⟩)]
end
def valP (r : Option (Nat × Nat)) (neg : Bool) : Nat := match r with | none => 0 | some (n, j) => ratN n (10 ^ j) + (bif neg then 9223372036854775808 else 0)
def errP (r : Option (Nat × Nat)) : Int := match r with | none => 3 | some _ => 0
def minus (s : List UInt8) : Bool := decide (0 < s.length) && bl s 0 == 45
def parseV (s : List UInt8) : Nat :=
  if s = [110, 97, 110] then 9221120237041090560 else if s = [105, 110, 102] then 9218868437227405312 else if s = [45, 105, 110, 102] then 18442240474082181120
  else valP (scan false 0 0 (bif minus s then s.drop 1 else s)) (minus s)
def parseE (s : List UInt8) : Int :=
  if s = [110, 97, 110] then 0 else if s = [105, 110, 102] then 0 else if s = [45, 105, 110, 102] then 0
  else errP (scan false 0 0 (bif minus s then s.drop 1 else s))
section
variable {s : List UInt8} (h1 : ¬ s = [110, 97, 110]) (h2 : ¬ s = [105, 110, 102]) (h3 : ¬ s = [45, 105, 110, 102])
theorem parse_nan (h : s = [110, 97, 110]) : parseV s = 9221120237041090560 ∧ parseE s = 0 := by unfold parseV parseE; rw [if_pos h, if_pos h]; exact ⟨rfl, rfl⟩
include h1 in
theorem parse_inf (h : s = [105, 110, 102]) : parseV s = 9218868437227405312 ∧ parseE s = 0 := by unfold parseV parseE; rw [if_neg h1, if_neg h1, if_pos h, if_pos h]; exact ⟨rfl, rfl⟩
include h1 h2 in
theorem parse_ninf (h : s = [45, 105, 110, 102]) : parseV s = 18442240474082181120 ∧ parseE s = 0 := by unfold parseV parseE; rw [if_neg h1, if_neg h1, if_neg h2, if_neg h2, if_pos h, if_pos h]; exact ⟨rfl, rfl⟩
include h1 h2 h3 in
theorem parse_neg (h : minus s = true) : parseV s = valP (scan false 0 0 ((s.drop 1).drop 0)) true ∧ parseE s = errP (scan false 0 0 ((s.drop 1).drop 0)) := by
  unfold parseV parseE; rw [if_neg h1, if_neg h1, if_neg h2, if_neg h2, if_neg h3, if_neg h3, h]; exact ⟨rfl, rfl⟩
include h1 h2 h3 in
theorem parse_pos (h : minus s = false) : parseV s = valP (scan false 0 0 (s.drop 0)) false ∧ parseE s = errP (scan false 0 0 (s.drop 0)) := by
  unfold parseV parseE; rw [if_neg h1, if_neg h1, if_neg h2, if_neg h2, if_neg h3, if_neg h3, h]; exact ⟨rfl, rfl⟩
end
theorem sc0 : near (10 ^ 0) = 4607182418800017408 := by decide +kernel
theorem sc_up : ∀ d : Fin 3, Ieee.double.mul (near (10 ^ d.val)) 4621819117588971520 = some (near (10 ^ (d.val + 1))) := by decide +kernel
theorem sc_bd {d : Nat} (h : d ≤ 3) : 0 < 10 ^ d ∧ 10 ^ d ≤ 1000 := ⟨Nat.pow_pos (by decide), Nat.pow_le_pow_right (by decide) h⟩
theorem dec_bd {n e c : Nat} (h : n < 10 ^ e) (he : e ≤ c) : n < 10 ^ c := Nat.lt_of_lt_of_le h (Nat.pow_le_pow_right (by decide) he)
theorem dec_up {n e v : Nat} (h : n < 10 ^ e) (hv : v ≤ 9) : 10 * n + v < 10 ^ (e + 1) := by rw [Nat.pow_succ]; omega
theorem f_fmul {P : Program} {w : World} {t : TypeId} {x y r : Nat} (h : Ieee.double.mul x y = some r) : (binOp .mul t (.float .f64 x) (.float .f64 y)).run P w = .ok (.float .f64 r) w := run_float_arith w .mul t .f64 x y r h
theorem f_fquo {P : Program} {w : World} {t : TypeId} {x y r : Nat} (h : Ieee.double.div x y = some r) : (binOp .quo t (.float .f64 x) (.float .f64 y)).run P w = .ok (.float .f64 r) w := run_float_arith w .quo t .f64 x y r h
theorem ratN_pos_k {a b : Nat} (ha : 0 < a) (ha2 : a < 9007199254740992) (hb : 0 < b) (hb2 : b ≤ 1000) : ∃ k, 9007199254740992 ≤ a * 2 ^ k / b ∧ a * 2 ^ k / b < 18014398509481984 ∧ k ≤ 500 ∧ ratN a b = (1075 - k) * 4503599627370496 + rndQ (a * 2 ^ k / b) (decide (0 < a * 2 ^ k % b)) := by
  obtain ⟨k, h1, h2, h3⟩ := ratN_k ha ha2 hb (by omega)
  exact ⟨k, h1, h2, h3, ratN_of ha ha2 hb (by omega) h1 h2 h3⟩
theorem ratN_lt {a b : Nat} (ha2 : a < 9007199254740992) (hb : 0 < b) (hb2 : b ≤ 1000) : ratN a b < 9218868437227405312 := by
  rcases Nat.eq_zero_or_pos a with rfl | ha
  · rw [ratN_zero hb (by omega)]; decide
  · obtain ⟨k, h1, h2, h3, e⟩ := ratN_pos_k ha ha2 hb hb2
    have hk : 1 ≤ k := by
      rcases Nat.eq_zero_or_pos k with rfl | hk
      · rw [Nat.pow_zero, Nat.mul_one] at h1
        have := Nat.div_le_self a b
        omega
      · exact hk
    rw [e]
    have := rndQ_le (s := decide (0 < a * 2 ^ k % b)) h2
    omega
/-! ### long division -/
theorem step_lo {z b : Nat} (hb : 0 < b) (h : ¬ 2 * (z % b) ≥ b) : 2 * z / b = 2 * (z / b) ∧ 2 * z % b = 2 * (z % b) := by
  have h1 := Nat.div_add_mod z b
  have hz : 2 * z = b * (2 * (z / b)) + 2 * (z % b) := by
    calc 2 * z = 2 * (b * (z / b) + z % b) := by rw [h1]
      _ = _ := by rw [Nat.mul_add, Nat.mul_left_comm]
  constructor
  · conv => lhs; rw [hz]
    rw [Nat.mul_add_div hb, Nat.div_eq_of_lt (show 2 * (z % b) < b by omega)]; rfl
  · conv => lhs; rw [hz]
    rw [Nat.mul_add_mod, Nat.mod_eq_of_lt (show 2 * (z % b) < b by omega)]
theorem step_hi {z b : Nat} (hb : 0 < b) (h : 2 * (z % b) ≥ b) : 2 * z / b = 2 * (z / b) + 1 ∧ 2 * z % b = 2 * (z % b) - b := by
  have h1 := Nat.div_add_mod z b
  have h2 := Nat.mod_lt z hb
  have hz : 2 * z = b * (2 * (z / b) + 1) + (2 * (z % b) - b) := by
    have : 2 * z = 2 * (b * (z / b)) + 2 * (z % b) := by omega
    rw [this, Nat.mul_add, Nat.mul_left_comm]; omega
  constructor
  · conv => lhs; rw [hz]
    rw [Nat.mul_add_div hb, Nat.div_eq_of_lt (show 2 * (z % b) - b < b by omega)]
  · conv => lhs; rw [hz]
    rw [Nat.mul_add_mod, Nat.mod_eq_of_lt (show 2 * (z % b) - b < b by omega)]
theorem pow_up (a k : Nat) : a * 2 ^ (k + 1) = 2 * (a * 2 ^ k) := by rw [Nat.pow_succ, ← Nat.mul_assoc, Nat.mul_comm]
theorem k_lt {a b k : Nat} (ha : 0 < a) (hb : 0 < b) (hb2 : b ≤ 1000) (h : a * 2 ^ k / b < 9007199254740992) : k < 63 := by
  rcases Nat.lt_or_ge k 63 with h' | h'
  · exact h'
  · rw [Nat.div_lt_iff_lt_mul hb] at h
    have h2 : 2 ^ 63 ≤ 2 ^ k := Nat.pow_le_pow_right (by decide) h'
    have e : (2 : Nat) ^ 63 = 9223372036854775808 := by decide
    rw [e] at h2
    have h3 : 1 * 9223372036854775808 ≤ a * 2 ^ k := Nat.mul_le_mul ha h2
    have h4 : 9007199254740992 * b ≤ 9007199254740992 * 1000 := Nat.mul_le_mul_left _ hb2
    omega
theorem q_hi {a b k : Nat} (ha2 : a < 9007199254740992) (hb : 0 < b) (h : k = 0 ∨ a * 2 ^ (k - 1) / b < 9007199254740992) (h1 : ¬ a * 2 ^ k / b < 9007199254740992) : a * 2 ^ k / b < 18014398509481984 ∧ 1 ≤ k := by
  rcases h with rfl | h
  · have := Nat.div_le_self (a * 2 ^ 0) b
    simp only [Nat.pow_zero, Nat.mul_one] at *
    omega
  · rcases Nat.eq_zero_or_pos k with rfl | hk
    · have := Nat.div_le_self (a * 2 ^ 0) b
      simp only [Nat.pow_zero, Nat.mul_one] at *
      omega
    · refine ⟨?_, hk⟩
      obtain ⟨m, rfl⟩ : ∃ m, k = m + 1 := ⟨k - 1, by omega⟩
      rw [Nat.add_sub_cancel] at h
      rw [pow_up]
      rcases Decidable.em (2 * ((a * 2 ^ m) % b) ≥ b) with g | g
      · rw [(step_hi hb g).1]; omega
      · rw [(step_lo hb g).1]; omega
/-! ### the reference's digits -/
def dgF : Nat → Nat → List UInt8 → Nat × Nat
  | 0, x, _ => (0, x)
  | _ + 1, x, [] => (0, x)
  | m + 1, x, c :: t => if 48 ≤ c.toNat ∧ c.toNat ≤ 57 then ((dgF m (10 * x + (c.toNat - 48)) t).1 + 1, (dgF m (10 * x + (c.toNat - 48)) t).2) else (0, x)
section
variable {s : List UInt8} {m x k : Nat}
theorem dgF_zero (t : List UInt8) : dgF 0 x t = (0, x) := by cases t <;> rfl
theorem dgF_end (h : ¬ k < s.length) : dgF m x (s.drop k) = (0, x) := by
  rw [List.drop_eq_nil_of_le (by omega)]; cases m <;> rfl
theorem dgF_no (h : k < s.length) (h1 : ¬ (48 ≤ bl s k ∧ bl s k ≤ 57)) : dgF m x (s.drop k) = (0, x) := by
  obtain ⟨c, e, hc⟩ := drop_at h
  cases m with
  | zero => exact dgF_zero _
  | succ m => rw [e, dgF, if_neg (fun z => h1 ⟨by omega, by omega⟩)]
theorem dgF_yes (h : k < s.length) (h1 : 48 ≤ bl s k) (h2 : bl s k ≤ 57) : dgF (m + 1) x (s.drop k) = ((dgF m (10 * x + ((bl s k).toNat - 48)) (s.drop (k + 1))).1 + 1, (dgF m (10 * x + ((bl s k).toNat - 48)) (s.drop (k + 1))).2) := by
  obtain ⟨c, e, hc⟩ := drop_at h
  rw [e, dgF, if_pos ⟨by omega, by omega⟩, hc]; rfl
end
theorem dgF_bd : ∀ (m x : Nat) (s : List UInt8), (dgF m x s).1 ≤ m ∧ (dgF m x s).1 ≤ s.length ∧ (∀ e, x < 10 ^ e → (dgF m x s).2 < 10 ^ (e + (dgF m x s).1))
  | 0, x, s => by rw [dgF_zero]; exact ⟨Nat.le_refl _, Nat.zero_le _, fun e h => h⟩
  | m + 1, x, [] => ⟨Nat.zero_le _, Nat.le_refl _, fun e h => h⟩
  | m + 1, x, c :: t => by
    rw [dgF]
    split
    · rename_i hc
      obtain ⟨h1, h2, h3⟩ := dgF_bd m (10 * x + (c.toNat - 48)) t
      refine ⟨by simp only; omega, by simp only [List.length_cons]; omega, fun e h => ?_⟩
      have := h3 (e + 1) (dec_up h (by omega))
      simp only
      rw [show e + ((dgF m (10 * x + (c.toNat - 48)) t).1 + 1) = e + 1 + (dgF m (10 * x + (c.toNat - 48)) t).1 by omega]
      exact this
    · exact ⟨Nat.zero_le _, Nat.zero_le _, fun e h => h⟩
theorem dgF_acc : ∀ (m x : Nat) (s : List UInt8), (dgF m x s).1 = (dgF m 0 s).1 ∧ (dgF m x s).2 = x * 10 ^ (dgF m 0 s).1 + (dgF m 0 s).2
  | 0, x, s => by rw [dgF_zero, dgF_zero]; simp
  | m + 1, x, [] => by simp [dgF]
  | m + 1, x, c :: t => by
    rw [dgF, dgF]
    split
    · rename_i hc
      obtain ⟨h1, h2⟩ := dgF_acc m (10 * x + (c.toNat - 48)) t
      obtain ⟨h3, h4⟩ := dgF_acc m (10 * 0 + (c.toNat - 48)) t
      simp only [Nat.mul_zero, Nat.zero_add] at *
      refine ⟨by rw [h1, h3], ?_⟩
      rw [h2, h4, h3, Nat.pow_succ, Nat.add_mul, ← Nat.add_assoc]
      congr 2
      rw [Nat.mul_comm 10 x, Nat.mul_assoc, Nat.mul_comm 10]
    · simp
/-- the document's form -/
def refP (s : List UInt8) : Option (Nat × Nat) :=
  if (dgF 12 0 s).1 = 0 then none
  else if (s.drop (dgF 12 0 s).1).length = 0 then some ((dgF 12 0 s).2, 0)
  else if bl (s.drop (dgF 12 0 s).1) 0 ≠ 46 ∨ (dgF 3 0 ((s.drop (dgF 12 0 s).1).drop 1)).1 = 0 ∨ (dgF 3 0 ((s.drop (dgF 12 0 s).1).drop 1)).1 ≠ (s.drop (dgF 12 0 s).1).length - 1 then none
  else some ((dgF 12 0 s).2 * 10 ^ (dgF 3 0 ((s.drop (dgF 12 0 s).1).drop 1)).1 + (dgF 3 0 ((s.drop (dgF 12 0 s).1).drop 1)).2, (dgF 3 0 ((s.drop (dgF 12 0 s).1).drop 1)).1)
theorem scan_dot : ∀ (t : List UInt8) (n d : Nat), d ≤ 3 → scan true n d t = if (dgF (3 - d) n t).1 = t.length ∧ ¬ d + (dgF (3 - d) n t).1 = 0 then some ((dgF (3 - d) n t).2, d + (dgF (3 - d) n t).1) else none
  | [], n, d, h => by
    have e : dgF (3 - d) n [] = (0, n) := by cases (3 - d) <;> rfl
    rw [e, scan]
    by_cases h0 : d = 0
    · rw [if_pos h0, if_neg (by simp; omega)]
    · rw [if_neg h0, if_pos (by simp; omega)]; rfl
  | c :: t, n, d, h => by
    rw [scan, if_neg (by simp)]
    by_cases h3 : d < 3
    · obtain ⟨m, hm⟩ : ∃ m, 3 - d = m + 1 := ⟨2 - d, by omega⟩
      have hm2 : m = 3 - (d + 1) := by omega
      rw [hm, dgF]
      by_cases hc : 48 ≤ c.toNat ∧ c.toNat ≤ 57
      · rw [if_pos ⟨hc.1, hc.2, h3⟩, if_pos hc, scan_dot t _ (d + 1) (by omega), hm2]
        generalize dgF (3 - (d + 1)) (10 * n + (c.toNat - 48)) t = r
        simp only [List.length_cons]
        by_cases g : r.1 = t.length
        · rw [if_pos ⟨g, by omega⟩, if_pos ⟨by omega, by omega⟩]; congr 2; omega
        · rw [if_neg (fun z => g z.1), if_neg (fun z => g (by omega))]
      · rw [if_neg (fun z => hc ⟨z.1, z.2.1⟩), if_neg hc, if_neg (by simp)]
    · have e : 3 - d = 0 := by omega
      rw [if_neg (fun z => h3 (by exact z.2.2)), e, dgF_zero, if_neg (by simp)]
theorem scan_whole : ∀ (s : List UInt8) (n d : Nat), d ≤ 12 → scan false n d s =
    (if d + (dgF (12 - d) n s).1 = 0 then none else if (s.drop (dgF (12 - d) n s).1).length = 0 then some ((dgF (12 - d) n s).2, 0)
     else if bl (s.drop (dgF (12 - d) n s).1) 0 = 46 then scan true (dgF (12 - d) n s).2 0 ((s.drop (dgF (12 - d) n s).1).drop 1) else none)
  | [], n, d, h => by
    have e : dgF (12 - d) n [] = (0, n) := by cases (12 - d) <;> rfl
    rw [e, scan]; simp
  | c :: t, n, d, h => by
    rw [scan]
    have hb : ∀ l : List UInt8, bl (c :: l) 0 = ((c.toNat : Nat) : Int) := fun l => rfl
    by_cases hc : 48 ≤ c.toNat ∧ c.toNat ≤ 57
    · by_cases h3 : d < 12
      · obtain ⟨m, hm⟩ : ∃ m, 12 - d = m + 1 := ⟨11 - d, by omega⟩
        have hm2 : m = 12 - (d + 1) := by omega
        rw [if_neg (by omega), if_pos ⟨hc.1, hc.2, h3⟩, hm, dgF, if_pos hc, scan_whole t _ (d + 1) (by omega), hm2]
        generalize dgF (12 - (d + 1)) (10 * n + (c.toNat - 48)) t = r
        simp only [List.drop_succ_cons]
        rw [if_neg (show ¬ d + 1 + r.1 = 0 by omega), if_neg (show ¬ d + (r.1 + 1) = 0 by omega)]
      · have e : 12 - d = 0 := by omega
        rw [if_neg (show ¬ (c.toNat = 46 ∧ false = false ∧ 0 < d) from fun z => by omega), if_neg (show ¬ (48 ≤ c.toNat ∧ c.toNat ≤ 57 ∧ d < most false) from fun z => h3 z.2.2), e, dgF_zero]
        simp only [Nat.add_zero, List.drop_zero]
        rw [hb, if_neg (show ¬ d = 0 by omega), if_neg (show ¬ (c :: t).length = 0 by simp), if_neg (show ¬ ((c.toNat : Nat) : Int) = 46 by omega)]
    · have e : dgF (12 - d) n (c :: t) = (0, n) := by
        cases (12 - d) with
        | zero => rfl
        | succ m => rw [dgF, if_neg hc]
      rw [e]
      simp only [Nat.add_zero, List.drop_zero]
      rw [hb]
      by_cases h0 : d = 0
      · rw [if_pos h0, if_neg (show ¬ (c.toNat = 46 ∧ True ∧ 0 < d) from fun z => by omega), if_neg (show ¬ (48 ≤ c.toNat ∧ c.toNat ≤ 57 ∧ d < most false) from fun z => hc ⟨z.1, z.2.1⟩)]
      · rw [if_neg h0, if_neg (show ¬ (c :: t).length = 0 by simp)]
        by_cases hp : c.toNat = 46
        · rw [if_pos (show c.toNat = 46 ∧ True ∧ 0 < d from ⟨hp, trivial, by omega⟩), if_pos (show ((c.toNat : Nat) : Int) = 46 by omega)]; rfl
        · rw [if_neg (show ¬ (c.toNat = 46 ∧ True ∧ 0 < d) from fun z => by omega), if_neg (show ¬ (48 ≤ c.toNat ∧ c.toNat ≤ 57 ∧ d < most false) from fun z => hc ⟨z.1, z.2.1⟩), if_neg (show ¬ ((c.toNat : Nat) : Int) = 46 by omega)]
theorem refP_scan (s : List UInt8) : refP s = scan false 0 0 s := by
  rw [scan_whole s 0 0 (by decide)]
  unfold refP
  simp only [Nat.zero_add, Nat.sub_zero]
  split
  · rfl
  · split
    · rfl
    · rename_i h0 h1
      by_cases hb : bl (s.drop (dgF 12 0 s).1) 0 = 46
      · rw [if_pos hb, scan_dot _ _ 0 (by decide)]
        simp only [Nat.sub_zero, Nat.zero_add]
        obtain ⟨e1, e2⟩ := dgF_acc 3 (dgF 12 0 s).2 ((s.drop (dgF 12 0 s).1).drop 1)
        rw [e1, e2]
        have hl : ((s.drop (dgF 12 0 s).1).drop 1).length = (s.drop (dgF 12 0 s).1).length - 1 := List.length_drop ..
        rw [hl]
        generalize (dgF 3 0 ((s.drop (dgF 12 0 s).1).drop 1)).1 = m
        by_cases hm : m = (s.drop (dgF 12 0 s).1).length - 1 ∧ ¬ m = 0
        · rw [if_neg (by rintro (z | z | z); exact z hb; exact hm.2 z; exact z hm.1), if_pos hm]
        · rw [if_neg hm, if_pos]
          by_cases h2 : m = 0
          · exact .inr (.inl h2)
          · exact .inr (.inr fun z => hm ⟨z, h2⟩)
      · rw [if_neg hb, if_pos (.inl hb)]
end Go.RealQ
namespace Go.RealQ
open Go.Gw
theorem csign_eq {n : Nat} (hn : n < 9223372036854775808) : Int.toNat (IntKind.wrap .u64 ((BitVec.ofInt (IntKind.bits .u64) (IntKind.wrap .u64 ((BitVec.ofInt (IntKind.bits .u64) ((n : Nat) : Int) &&& ~~~BitVec.ofInt (IntKind.bits .u64) 9223372036854775808).toNat : Int)) ||| BitVec.ofInt (IntKind.bits .u64) (IntKind.wrap .u64 ((BitVec.ofInt (IntKind.bits .u64) 13830554455654793216 &&& BitVec.ofInt (IntKind.bits .u64) 9223372036854775808).toNat : Int))).toNat : Int)) = n + 9223372036854775808 := by
  have e2 : IntKind.wrap .u64 ((BitVec.ofInt (IntKind.bits .u64) 13830554455654793216 &&& BitVec.ofInt (IntKind.bits .u64) 9223372036854775808).toNat : Int) = 9223372036854775808 := by decide +kernel
  have e3 : ~~~BitVec.ofInt (IntKind.bits .u64) 9223372036854775808 = BitVec.ofNat 64 9223372036854775807 := by
    show ~~~BitVec.ofInt 64 9223372036854775808 = BitVec.ofNat 64 9223372036854775807
    decide +kernel
  have e1 : IntKind.wrap .u64 ((BitVec.ofInt (IntKind.bits .u64) ((n : Nat) : Int) &&& ~~~BitVec.ofInt (IntKind.bits .u64) 9223372036854775808).toNat : Int) = ((n : Nat) : Int) := by
    rw [e3]
    show IntKind.wrap .u64 ((BitVec.ofInt 64 ((n : Nat) : Int) &&& BitVec.ofNat 64 9223372036854775807).toNat : Int) = _
    rw [BitVec.toNat_and, BitVec.ofInt_natCast, BitVec.toNat_ofNat, BitVec.toNat_ofNat, Nat.mod_eq_of_lt (by omega), Nat.mod_eq_of_lt (by omega)]
    have := Nat.and_two_pow_sub_one_eq_mod n 63
    have p : (2 : Nat) ^ 63 = 9223372036854775808 := by decide
    rw [p] at this
    have q : (9223372036854775808 : Nat) - 1 = 9223372036854775807 := by decide
    rw [q] at this
    rw [this, Nat.mod_eq_of_lt hn]
    exact IntWalk.u64_in _ (by omega)
  rw [e1, e2]
  show Int.toNat (IntKind.wrap .u64 ((BitVec.ofInt 64 ((n : Nat) : Int) ||| BitVec.ofInt 64 ((9223372036854775808 : Nat) : Int)).toNat : Int)) = _
  rw [BitVec.toNat_or, BitVec.ofInt_natCast, BitVec.ofInt_natCast, BitVec.toNat_ofNat, BitVec.toNat_ofNat, Nat.mod_eq_of_lt (by omega), Nat.mod_eq_of_lt (by omega)]
  have := Nat.two_pow_add_eq_or_of_lt (i := 63) (b := n) (by rw [show (2 : Nat) ^ 63 = 9223372036854775808 by decide]; exact hn) 1
  rw [Nat.mul_one, show (2 : Nat) ^ 63 = 9223372036854775808 by decide] at this
  rw [Nat.or_comm, ← this, IntWalk.u64_in _ (by omega)]
  omega
theorem minus_yes {s : List UInt8} (h : ¬ s = []) (h2 : (bl s 0 == 45) = true) : minus s = true := by
  unfold minus; rw [h2, decide_eq_true (List.length_pos_iff.2 h)]; rfl
theorem minus_no {s : List UInt8} (h2 : (bl s 0 == 45) = false) : minus s = false := by unfold minus; rw [h2, Bool.and_false]
theorem minus_nil {s : List UInt8} (h : s = []) : minus s = false := by subst h; rfl
end Go.RealQ
namespace Go.RealQ
theorem rndQ_up {q r : Nat} (h : q % 2 = 1) (h2 : 0 < r ∨ q / 2 % 2 = 1) : rndQ q (decide (0 < r)) = q / 2 + 1 := by
  unfold rndQ; rw [if_pos ⟨h, by rcases h2 with z | z; exact .inl (decide_eq_true z); exact .inr z⟩]
theorem rndQ_same {q r : Nat} (h : ¬ (q % 2 = 1 ∧ (0 < r ∨ q / 2 % 2 = 1))) : rndQ q (decide (0 < r)) = q / 2 := by
  unfold rndQ; rw [if_neg (fun z => h ⟨z.1, by rcases z.2 with y | y; exact .inl (of_decide_eq_true y); exact .inr y⟩)]; rfl
end Go.RealQ
namespace Go.RealQ
theorem xm_bd {x j : Nat} (hx : x < 1000000000000) (hj : j ≤ 3) : x * 10 ^ j ≤ 999999999999000 := by
  have h1 := (sc_bd hj).2
  calc x * 10 ^ j ≤ 999999999999 * 1000 := Nat.mul_le_mul (by omega) h1
    _ = 999999999999000 := by decide
end Go.RealQ
namespace Go.RealQ
theorem dg12 (s : List UInt8) : (dgF 12 0 s).2 < 1000000000000 := by
  obtain ⟨h1, h2, h3⟩ := dgF_bd 12 0 s
  have := dec_bd (c := 12) (h3 0 (by decide)) (by omega)
  have e : (10 : Nat) ^ 12 = 1000000000000 := by decide
  rwa [e] at this
theorem dg3 (s : List UInt8) : (dgF 3 0 s).2 < 1000 := by
  obtain ⟨h1, h2, h3⟩ := dgF_bd 3 0 s
  have := dec_bd (c := 3) (h3 0 (by decide)) (by omega)
  have e : (10 : Nat) ^ 3 = 1000 := by decide
  rwa [e] at this
end Go.RealQ

namespace Go.Proofs.YthpodbngljfdmaaGreatDoor
open Go Go.Shelf Go.Proofs
set_option maxRecDepth 100000
def shR : Go.Shelf.Ren := ⟨fun | 99 => 66 | 105 => 50 | 118 => 174 | 129 => 114 | 143 => 162 | 144 => 144 | 156 => 48 | 159 => 143 | 165 => 61 | 166 => 62 | 167 => 159 | 168 => 175 | 169 => 63 | 170 => 67 | 171 => 33 | 197 => 173 | 204 => 161 | 206 => 95 | 212 => 65 | 217 => 142 | 219 => 178 | 224 => 189 | 225 => 188 | 230 => 160 | 240 => 87 | 241 => 88 | 242 => 186 | 243 => 53 | 246 => 70 | 260 => 185 | 262 => 177 | 263 => 93 | 264 => 94 | 266 => 158 | 267 => 190 | 270 => 176 | 274 => 194 | 275 => 195 | 276 => 111 | 277 => 112 | 278 => 193 | 283 => 89 | 284 => 90 | 285 => 91 | 286 => 92 | 313 => 187 | 314 => 196 | 316 => 191 | 317 => 113 | 318 => 115 | 319 => 116 | 320 => 117 | 337 => 134 | 338 => 135 | n => n, fun | 0 => 0 | 2 => 2 | 3 => 3 | 4 => 4 | 5 => 5 | 9 => 9 | 20 => 20 | 21 => 21 | 31 => 64 | 37 => 76 | 46 => 93 | 51 => 101 | 53 => 22 | 70 => 84 | 72 => 86 | 75 => 89 | 76 => 90 | 80 => 92 | 105 => 221 | 107 => 215 | 109 => 94 | 119 => 165 | 127 => 129 | 138 => 239 | 139 => 240 | 146 => 135 | 148 => 137 | 160 => 241 | 162 => 234 | 164 => 150 | 171 => 130 | 173 => 133 | 203 => 232 | 206 => 249 | 208 => 251 | 212 => 154 | 213 => 155 | 232 => 202 | 233 => 203 | n => n, fun | 1 => 1 | 3 => 8 | 4 => 9 | 13 => 5 | 17 => 0 | 18 => 2 | 19 => 3 | n => n⟩
theorem lays159 : Go.Proofs.Lays.n159 Tryz.prog shR := {
  mixed := by kernel_rfl
  f118 := Tryz.func174.trans (congrArg some (by kernel_rfl))
  f159 := Tryz.func143.trans (congrArg some (by kernel_rfl))
  f165 := Tryz.func61.trans (congrArg some (by kernel_rfl))
  f166 := Tryz.func62.trans (congrArg some (by kernel_rfl))
  f167 := Tryz.func159.trans (congrArg some (by kernel_rfl))
  f168 := Tryz.func175.trans (congrArg some (by kernel_rfl))
  f169 := Tryz.func63.trans (congrArg some (by kernel_rfl))
  f197 := Tryz.func173.trans (congrArg some (by kernel_rfl))
  f204 := Tryz.func161.trans (congrArg some (by kernel_rfl))
  f230 := Tryz.func160.trans (congrArg some (by kernel_rfl))
  f240 := Tryz.func87.trans (congrArg some (by kernel_rfl))
  f241 := Tryz.func88.trans (congrArg some (by kernel_rfl))
  f242 := Tryz.func186.trans (congrArg some (by kernel_rfl))
  f260 := Tryz.func185.trans (congrArg some (by kernel_rfl))
  f262 := Tryz.func177.trans (congrArg some (by kernel_rfl))
  f270 := Tryz.func176.trans (congrArg some (by kernel_rfl))
  f274 := Tryz.func194.trans (congrArg some (by kernel_rfl))
  f275 := Tryz.func195.trans (congrArg some (by kernel_rfl))
  f276 := Tryz.func111.trans (congrArg some (by kernel_rfl))
  f277 := Tryz.func112.trans (congrArg some (by kernel_rfl))
  f278 := Tryz.func193.trans (congrArg some (by kernel_rfl))
  f313 := Tryz.func187.trans (congrArg some (by kernel_rfl))
  t0 := Tryz.underlying0
  a0 := Tryz.isAgg0
  z0 := Tryz.sizeOf0
  v0 := Tryz.zeroValue0
  t3 := Tryz.underlying3
  a3 := Tryz.isAgg3
  z3 := Tryz.sizeOf3
  v3 := Tryz.zeroValue3
  t4 := Tryz.underlying4
  a4 := Tryz.isAgg4
  z4 := Tryz.sizeOf4
  v4 := Tryz.zeroValue4
  t5 := Tryz.underlying5
  a5 := Tryz.isAgg5
  z5 := Tryz.sizeOf5
  v5 := Tryz.zeroValue5
  t9 := Tryz.underlying9
  a9 := Tryz.isAgg9
  z9 := Tryz.sizeOf9
  v9 := Tryz.zeroValue9
  t20 := Tryz.underlying20
  a20 := Tryz.isAgg20
  z20 := Tryz.sizeOf20
  v20 := Tryz.zeroValue20
  t21 := Tryz.underlying21
  a21 := Tryz.isAgg21
  z21 := Tryz.sizeOf21
  v21 := Tryz.zeroValue21
  t37 := Tryz.underlying76
  a37 := Tryz.isAgg76
  z37 := Tryz.sizeOf76
  v37 := Tryz.zeroValue76
  t46 := Tryz.underlying93
  a46 := Tryz.isAgg93
  z46 := Tryz.sizeOf93
  v46 := Tryz.zeroValue93
  t51 := Tryz.underlying101
  a51 := Tryz.isAgg101
  z51 := Tryz.sizeOf101
  v51 := Tryz.zeroValue101
  t70 := Tryz.underlying84
  a70 := Tryz.isAgg84
  z70 := Tryz.sizeOf84
  v70 := Tryz.zeroValue84
  t72 := Tryz.underlying86
  a72 := Tryz.isAgg86
  z72 := Tryz.sizeOf86
  v72 := Tryz.zeroValue86
  t75 := Tryz.underlying89
  a75 := Tryz.isAgg89
  z75 := Tryz.sizeOf89
  v75 := Tryz.zeroValue89
  t76 := Tryz.underlying90
  a76 := Tryz.isAgg90
  z76 := Tryz.sizeOf90
  v76 := Tryz.zeroValue90
  t105 := Tryz.underlying221
  a105 := Tryz.isAgg221
  z105 := Tryz.sizeOf221
  v105 := Tryz.zeroValue221
  t107 := Tryz.underlying215
  a107 := Tryz.isAgg215
  z107 := Tryz.sizeOf215
  v107 := Tryz.zeroValue215
  t119 := Tryz.underlying165
  a119 := Tryz.isAgg165
  z119 := Tryz.sizeOf165
  t127 := Tryz.underlying129
  a127 := Tryz.isAgg129
  z127 := Tryz.sizeOf129
  v127 := Tryz.zeroValue129
  t138 := Tryz.underlying239
  a138 := Tryz.isAgg239
  z138 := Tryz.sizeOf239
  v138 := Tryz.zeroValue239
  t139 := Tryz.underlying240
  a139 := Tryz.isAgg240
  z139 := Tryz.sizeOf240
  v139 := Tryz.zeroValue240
  t160 := Tryz.underlying241
  a160 := Tryz.isAgg241
  z160 := Tryz.sizeOf241
  v160 := Tryz.zeroValue241
  t162 := Tryz.underlying234
  a162 := Tryz.isAgg234
  z162 := Tryz.sizeOf234
  v162 := Tryz.zeroValue234
  t164 := Tryz.underlying150
  a164 := Tryz.isAgg150
  z164 := Tryz.sizeOf150
  v164 := Tryz.zeroValue150
  t203 := Tryz.underlying232
  a203 := Tryz.isAgg232
  z203 := Tryz.sizeOf232
  v203 := Tryz.zeroValue232
  t206 := Tryz.underlying249
  a206 := Tryz.isAgg249
  z206 := Tryz.sizeOf249
  v206 := Tryz.zeroValue249
  t208 := Tryz.underlying251
  a208 := Tryz.isAgg251
  z208 := Tryz.sizeOf251
  v208 := Tryz.zeroValue251
  g3 := by kernel_rfl
  g4 := by kernel_rfl
  g13 := by kernel_rfl }
theorem lays144 : Go.Proofs.Lays.n144 Tryz.prog shR := {
  mixed := by kernel_rfl
  f143 := Tryz.func162.trans (congrArg some (by kernel_rfl))
  f144 := Tryz.func144.trans (congrArg some (by kernel_rfl))
  f217 := Tryz.func142.trans (congrArg some (by kernel_rfl))
  f219 := Tryz.func178.trans (congrArg some (by kernel_rfl))
  f224 := Tryz.func189.trans (congrArg some (by kernel_rfl))
  f225 := Tryz.func188.trans (congrArg some (by kernel_rfl))
  f266 := Tryz.func158.trans (congrArg some (by kernel_rfl))
  f267 := Tryz.func190.trans (congrArg some (by kernel_rfl))
  f314 := Tryz.func196.trans (congrArg some (by kernel_rfl))
  t3 := Tryz.underlying3
  a3 := Tryz.isAgg3
  z3 := Tryz.sizeOf3
  v3 := Tryz.zeroValue3
  t4 := Tryz.underlying4
  a4 := Tryz.isAgg4
  z4 := Tryz.sizeOf4
  v4 := Tryz.zeroValue4
  t5 := Tryz.underlying5
  a5 := Tryz.isAgg5
  z5 := Tryz.sizeOf5
  v5 := Tryz.zeroValue5
  t9 := Tryz.underlying9
  a9 := Tryz.isAgg9
  z9 := Tryz.sizeOf9
  v9 := Tryz.zeroValue9
  t46 := Tryz.underlying93
  a46 := Tryz.isAgg93
  z46 := Tryz.sizeOf93
  v46 := Tryz.zeroValue93
  t51 := Tryz.underlying101
  a51 := Tryz.isAgg101
  z51 := Tryz.sizeOf101
  v51 := Tryz.zeroValue101
  t146 := Tryz.underlying135
  a146 := Tryz.isAgg135
  z146 := Tryz.sizeOf135
  v146 := Tryz.zeroValue135
  g1 := by kernel_rfl }
theorem lays156 : Go.Proofs.Lays.n156 Tryz.prog shR := {
  mixed := by kernel_rfl
  f156 := Tryz.func48.trans (congrArg some (by kernel_rfl))
  f165 := Tryz.func61.trans (congrArg some (by kernel_rfl))
  f166 := Tryz.func62.trans (congrArg some (by kernel_rfl))
  f169 := Tryz.func63.trans (congrArg some (by kernel_rfl))
  f240 := Tryz.func87.trans (congrArg some (by kernel_rfl))
  f241 := Tryz.func88.trans (congrArg some (by kernel_rfl))
  f276 := Tryz.func111.trans (congrArg some (by kernel_rfl))
  f277 := Tryz.func112.trans (congrArg some (by kernel_rfl))
  t0 := Tryz.underlying0
  a0 := Tryz.isAgg0
  z0 := Tryz.sizeOf0
  v0 := Tryz.zeroValue0
  t3 := Tryz.underlying3
  a3 := Tryz.isAgg3
  z3 := Tryz.sizeOf3
  v3 := Tryz.zeroValue3
  t4 := Tryz.underlying4
  a4 := Tryz.isAgg4
  z4 := Tryz.sizeOf4
  v4 := Tryz.zeroValue4
  t9 := Tryz.underlying9
  a9 := Tryz.isAgg9
  z9 := Tryz.sizeOf9
  v9 := Tryz.zeroValue9
  t20 := Tryz.underlying20
  a20 := Tryz.isAgg20
  z20 := Tryz.sizeOf20
  v20 := Tryz.zeroValue20
  t31 := Tryz.underlying64
  a31 := Tryz.isAgg64
  z31 := Tryz.sizeOf64
  v31 := Tryz.zeroValue64
  t37 := Tryz.underlying76
  a37 := Tryz.isAgg76
  z37 := Tryz.sizeOf76
  v37 := Tryz.zeroValue76
  t70 := Tryz.underlying84
  a70 := Tryz.isAgg84
  z70 := Tryz.sizeOf84
  v70 := Tryz.zeroValue84
  t72 := Tryz.underlying86
  a72 := Tryz.isAgg86
  z72 := Tryz.sizeOf86
  v72 := Tryz.zeroValue86
  t75 := Tryz.underlying89
  a75 := Tryz.isAgg89
  z75 := Tryz.sizeOf89
  v75 := Tryz.zeroValue89
  t76 := Tryz.underlying90
  a76 := Tryz.isAgg90
  z76 := Tryz.sizeOf90
  v76 := Tryz.zeroValue90
  t127 := Tryz.underlying129
  a127 := Tryz.isAgg129
  z127 := Tryz.sizeOf129
  v127 := Tryz.zeroValue129
  t164 := Tryz.underlying150
  a164 := Tryz.isAgg150
  z164 := Tryz.sizeOf150
  v164 := Tryz.zeroValue150 }
theorem lays105 : Go.Proofs.Lays.n105 Tryz.prog shR := {
  mixed := by kernel_rfl
  f99 := Tryz.func66.trans (congrArg some (by kernel_rfl))
  f105 := Tryz.func50.trans (congrArg some (by kernel_rfl))
  f165 := Tryz.func61.trans (congrArg some (by kernel_rfl))
  f166 := Tryz.func62.trans (congrArg some (by kernel_rfl))
  f169 := Tryz.func63.trans (congrArg some (by kernel_rfl))
  f170 := Tryz.func67.trans (congrArg some (by kernel_rfl))
  f206 := Tryz.func95.trans (congrArg some (by kernel_rfl))
  f212 := Tryz.func65.trans (congrArg some (by kernel_rfl))
  f240 := Tryz.func87.trans (congrArg some (by kernel_rfl))
  f241 := Tryz.func88.trans (congrArg some (by kernel_rfl))
  f263 := Tryz.func93.trans (congrArg some (by kernel_rfl))
  f264 := Tryz.func94.trans (congrArg some (by kernel_rfl))
  f276 := Tryz.func111.trans (congrArg some (by kernel_rfl))
  f277 := Tryz.func112.trans (congrArg some (by kernel_rfl))
  t0 := Tryz.underlying0
  a0 := Tryz.isAgg0
  z0 := Tryz.sizeOf0
  v0 := Tryz.zeroValue0
  t3 := Tryz.underlying3
  a3 := Tryz.isAgg3
  z3 := Tryz.sizeOf3
  v3 := Tryz.zeroValue3
  t4 := Tryz.underlying4
  a4 := Tryz.isAgg4
  z4 := Tryz.sizeOf4
  v4 := Tryz.zeroValue4
  t5 := Tryz.underlying5
  a5 := Tryz.isAgg5
  z5 := Tryz.sizeOf5
  v5 := Tryz.zeroValue5
  t9 := Tryz.underlying9
  a9 := Tryz.isAgg9
  z9 := Tryz.sizeOf9
  v9 := Tryz.zeroValue9
  t20 := Tryz.underlying20
  a20 := Tryz.isAgg20
  z20 := Tryz.sizeOf20
  v20 := Tryz.zeroValue20
  t37 := Tryz.underlying76
  a37 := Tryz.isAgg76
  z37 := Tryz.sizeOf76
  v37 := Tryz.zeroValue76
  t46 := Tryz.underlying93
  a46 := Tryz.isAgg93
  z46 := Tryz.sizeOf93
  v46 := Tryz.zeroValue93
  t51 := Tryz.underlying101
  a51 := Tryz.isAgg101
  z51 := Tryz.sizeOf101
  v51 := Tryz.zeroValue101
  t53 := Tryz.underlying22
  a53 := Tryz.isAgg22
  z53 := Tryz.sizeOf22
  v53 := Tryz.zeroValue22
  t70 := Tryz.underlying84
  a70 := Tryz.isAgg84
  z70 := Tryz.sizeOf84
  v70 := Tryz.zeroValue84
  t72 := Tryz.underlying86
  a72 := Tryz.isAgg86
  z72 := Tryz.sizeOf86
  v72 := Tryz.zeroValue86
  t75 := Tryz.underlying89
  a75 := Tryz.isAgg89
  z75 := Tryz.sizeOf89
  v75 := Tryz.zeroValue89
  t76 := Tryz.underlying90
  a76 := Tryz.isAgg90
  z76 := Tryz.sizeOf90
  v76 := Tryz.zeroValue90
  t109 := Tryz.underlying94
  a109 := Tryz.isAgg94
  z109 := Tryz.sizeOf94
  v109 := Tryz.zeroValue94
  t127 := Tryz.underlying129
  a127 := Tryz.isAgg129
  z127 := Tryz.sizeOf129
  v127 := Tryz.zeroValue129
  t146 := Tryz.underlying135
  a146 := Tryz.isAgg135
  z146 := Tryz.sizeOf135
  v146 := Tryz.zeroValue135
  t148 := Tryz.underlying137
  a148 := Tryz.isAgg137
  z148 := Tryz.sizeOf137
  v148 := Tryz.zeroValue137
  t164 := Tryz.underlying150
  a164 := Tryz.isAgg150
  z164 := Tryz.sizeOf150
  v164 := Tryz.zeroValue150 }
theorem lays171 : Go.Proofs.Lays.n171 Tryz.prog shR := {
  mixed := by kernel_rfl
  f129 := Tryz.func114.trans (congrArg some (by kernel_rfl))
  f171 := Tryz.func33.trans (congrArg some (by kernel_rfl))
  f243 := Tryz.func53.trans (congrArg some (by kernel_rfl))
  f246 := Tryz.func70.trans (congrArg some (by kernel_rfl))
  f283 := Tryz.func89.trans (congrArg some (by kernel_rfl))
  f284 := Tryz.func90.trans (congrArg some (by kernel_rfl))
  f285 := Tryz.func91.trans (congrArg some (by kernel_rfl))
  f286 := Tryz.func92.trans (congrArg some (by kernel_rfl))
  f317 := Tryz.func113.trans (congrArg some (by kernel_rfl))
  f318 := Tryz.func115.trans (congrArg some (by kernel_rfl))
  f319 := Tryz.func116.trans (congrArg some (by kernel_rfl))
  f320 := Tryz.func117.trans (congrArg some (by kernel_rfl))
  f337 := Tryz.func134.trans (congrArg some (by kernel_rfl))
  f338 := Tryz.func135.trans (congrArg some (by kernel_rfl))
  t0 := Tryz.underlying0
  a0 := Tryz.isAgg0
  z0 := Tryz.sizeOf0
  v0 := Tryz.zeroValue0
  t2 := Tryz.underlying2
  a2 := Tryz.isAgg2
  z2 := Tryz.sizeOf2
  v2 := Tryz.zeroValue2
  t3 := Tryz.underlying3
  a3 := Tryz.isAgg3
  z3 := Tryz.sizeOf3
  v3 := Tryz.zeroValue3
  t4 := Tryz.underlying4
  a4 := Tryz.isAgg4
  z4 := Tryz.sizeOf4
  v4 := Tryz.zeroValue4
  t5 := Tryz.underlying5
  a5 := Tryz.isAgg5
  z5 := Tryz.sizeOf5
  v5 := Tryz.zeroValue5
  t9 := Tryz.underlying9
  a9 := Tryz.isAgg9
  z9 := Tryz.sizeOf9
  v9 := Tryz.zeroValue9
  t20 := Tryz.underlying20
  a20 := Tryz.isAgg20
  z20 := Tryz.sizeOf20
  v20 := Tryz.zeroValue20
  t37 := Tryz.underlying76
  a37 := Tryz.isAgg76
  z37 := Tryz.sizeOf76
  v37 := Tryz.zeroValue76
  t46 := Tryz.underlying93
  a46 := Tryz.isAgg93
  z46 := Tryz.sizeOf93
  v46 := Tryz.zeroValue93
  t51 := Tryz.underlying101
  a51 := Tryz.isAgg101
  z51 := Tryz.sizeOf101
  v51 := Tryz.zeroValue101
  t53 := Tryz.underlying22
  a53 := Tryz.isAgg22
  z53 := Tryz.sizeOf22
  v53 := Tryz.zeroValue22
  t171 := Tryz.underlying130
  a171 := Tryz.isAgg130
  z171 := Tryz.sizeOf130
  v171 := Tryz.zeroValue130
  t173 := Tryz.underlying133
  a173 := Tryz.isAgg133
  z173 := Tryz.sizeOf133
  v173 := Tryz.zeroValue133
  t212 := Tryz.underlying154
  a212 := Tryz.isAgg154
  z212 := Tryz.sizeOf154
  v212 := Tryz.zeroValue154
  t213 := Tryz.underlying155
  a213 := Tryz.isAgg155
  z213 := Tryz.sizeOf155
  t232 := Tryz.underlying202
  a232 := Tryz.isAgg202
  z232 := Tryz.sizeOf202
  v232 := Tryz.zeroValue202
  t233 := Tryz.underlying203
  a233 := Tryz.isAgg203
  z233 := Tryz.sizeOf203
  v233 := Tryz.zeroValue203
  g17 := by kernel_rfl
  g18 := by kernel_rfl
  g19 := by kernel_rfl }
theorem laysM316 : Go.Proofs.LaysM.n316 Tryz.prog shR := {
  mixed := by kernel_rfl
  f316 := Tryz.func191.trans (congrArg some (by kernel_rfl))
  t0 := Tryz.underlying0
  a0 := Tryz.isAgg0
  z0 := Tryz.sizeOf0
  v0 := Tryz.zeroValue0
  t3 := Tryz.underlying3
  a3 := Tryz.isAgg3
  z3 := Tryz.sizeOf3
  v3 := Tryz.zeroValue3
  t4 := Tryz.underlying4
  a4 := Tryz.isAgg4
  z4 := Tryz.sizeOf4
  v4 := Tryz.zeroValue4
  t9 := Tryz.underlying9
  a9 := Tryz.isAgg9
  z9 := Tryz.sizeOf9
  v9 := Tryz.zeroValue9
  t37 := Tryz.underlying76
  a37 := Tryz.isAgg76
  z37 := Tryz.sizeOf76
  v37 := Tryz.zeroValue76
  t127 := Tryz.underlying129
  a127 := Tryz.isAgg129
  z127 := Tryz.sizeOf129
  v127 := Tryz.zeroValue129
  t5 := Tryz.underlying5
  a5 := Tryz.isAgg5
  z5 := Tryz.sizeOf5
  v5 := Tryz.zeroValue5
  i0 := by kernel_rfl
  i3 := by kernel_rfl
  i4 := by kernel_rfl
  i5 := by kernel_rfl
  i9 := by kernel_rfl
  i37 := by kernel_rfl
  i127 := by kernel_rfl }
theorem bldX : Go.Proofs.Builder.Extra Tryz.prog shR := {
  sizeBuilder := by kernel_rfl
  liesBuilder := by kernel_rfl
  t5 := Tryz.underlying5
  a5 := Tryz.isAgg5
  z5 := Tryz.sizeOf5
  v5 := Tryz.zeroValue5
  infoByte := by kernel_rfl
  cellsByte := by kernel_rfl
  sizeByte := by kernel_rfl
  neB5 := by decide }
end Go.Proofs.YthpodbngljfdmaaGreatDoor

namespace Go.Gw
section
variable {P : Program} {w : World} {T E : TypeId}
theorem arr_slice {n b j : Nat} {i : Int} {kk : IntKind} (hA : P.underlying T = some (.array n E)) (hE : P.cellsOf E = 1) (hi : i = (j : Int)) (hj : j < n) :
    (Instr.sliceAt T (.pointer (some ⟨b, 0, none⟩)) (some (.int kk i)) none none).run P w = .ok (.slice (some ⟨b, j, none⟩) (n - j) (n - j)) w := by
  subst hi
  have h1 : ¬ n = j := by omega
  simp [Instr.sliceAt, run_underlying hA, Instr.sureAddr, Instr.sliceBounds, Instr.sliceBound, asIntOf, size_one hE, h1, Addr.add]
  rw [if_pos (show j ≤ n by omega)]
  by_cases h0 : j = 0
  · subst h0; rfl
  · rw [if_neg h0]
theorem arr_rd {n b j : Nat} {xs : List Value} (h : Rd w n (obj b) 1 xs) (hj : j < n) (hn : n ≤ 281474976710656) : Rd w 1 (.slice (some ⟨b, j, none⟩) (n - j) (n - j)) (n - j) (xs.drop j) := by
  obtain ⟨hl, a, c, e, _, _, _, hc⟩ := h
  unfold obj at e
  cases e
  have h3 := hc _ rfl
  refine ⟨by rw [List.length_drop, hl]; omega, _, _, rfl, Nat.le_refl _, by unfold maxLen; omega, (fun z => by cases z), fun ad had => ?_⟩
  simp only [Option.some.injEq] at had
  subst had
  refine ⟨.inr rfl, fun q u hq => ?_⟩
  rw [List.getElem?_drop] at hq
  have := h3.2 (j + q) u hq
  simpa using this
theorem arr_rdi {n b j : Nat} {kk : IntKind} {l : List Int} (h : Rd w n (obj b) 1 (ivals kk l)) (hj : j < n) (hn : n ≤ 281474976710656) : Rd w 1 (.slice (some ⟨b, j, none⟩) (n - j) (n - j)) (n - j) (ivals kk (l.drop j)) := by
  rw [show ivals kk (l.drop j) = (ivals kk l).drop j by unfold ivals; exact List.map_drop]
  exact arr_rd h hj hn
end
end Go.Gw

namespace Go.Gw
set_option linter.unusedVariables false
set_option linter.unusedSimpArgs false
section
variable {P : Program} {f : FuncId} {R : Ending → World → Prop} {k k' : List Item} {a a' : Act} {w w' : World} {n : Nat} {s : St} {D : Fx}

/-- a frame that has begun to die -/
theorem raise_goes {fn : Func} (hf : P.funcs[f]? = some fn) {ch : List PanicEntry} (hs : ∀ (b : Frame) cs, b.fn = f → b.kind = .normal → Steps P (lone (b.at a k) cs w) (lone ((b.at a k).raise ch) cs w'))
    (h : Leaves P fn a.tmps R a.defers (.panicking ch) w') : Goes P f R k a w := by
  intro b cs hb hk
  have e : (b.at a k).raise ch = { b.at a k with mode := .panicking ch } := by rw [Frame.raise_mode]; rfl
  obtain ⟨e', w'', fr', hR, hc, hfn, hl⟩ := leaves_steps (P := P) (fn := fn) (tmps := a.tmps) (R := R) a.defers (.panicking ch) w' ((b.at a k).raise ch) cs (by rw [e]) (by rw [e]; rfl) (by rw [e]; rfl) (by rw [e]; show P.funcs[b.fn]? = _; rw [hb]; exact hf) (by rw [e]; exact hk) h
  exact ⟨e', w'', fr', hR, hc.of_steps (hs b cs hb hk), hfn.trans (by rw [e]; exact hb), .inl ⟨rfl, hl⟩⟩

/-- an operation that panics -/
theorem Goes.dies {fn : Func} (hf : P.funcs[f]? = some fn) {ops : Array Oper} {i : Nat} {rest : List Nat} {o : Oper} {v : Value} (ho : ops[i]? = some o) (hw : Region.wanted o (yielded ops a.tmps) = true)
    (hr : (execOp a.eval o).run P w = .halt (.panic v) w') (h : Leaves P fn a.tmps R a.defers (.panicking [{ v, recovered := false }]) w') : Goes P f R (.inRegion ops (i :: rest) :: k) a w := by
  refine raise_goes hf (ch := [{ v, recovered := false }]) (fun b cs _ _ => .one (step_lone_go ?_)) h
  rw [stepG_op (P := P) (b := b) (k := k) (cs := cs) (w := w) (rest := rest) ho hw]
  simp [stepG.apply, hr]
/-- a call that may die -/
theorem Goes.calling {fn : Func} (hf : P.funcs[f]? = some fn) {ops : Array Oper} {i : Nat} {rest : List Nat} {o : Oper} {g : FuncId} {args : Array Value} {T : Ending → World → Prop} (ho : ops[i]? = some o) (hw : Region.wanted o (yielded ops a.tmps) = true)
    (hr : (execOp a.eval o).run P w = .ok (.enter g args) w') (hc : Calls P g args w' T)
    (h : ∀ e w'', T e w'' → (∃ v, e = .returned v ∧ Goes P f R (.inRegion ops rest :: k) (a.put o.dst v) w'') ∨ (∃ ch, e = .panicked ch ∧ Leaves P fn a.tmps R a.defers (.panicking ch) w'')) : Goes P f R (.inRegion ops (i :: rest) :: k) a w := by
  intro b cs hb hk
  have hg := stepG_op (P := P) (b := b) (k := k) (cs := cs) (w := w) (rest := rest) ho hw
  have hfin : ∀ v, (b.at a (.inRegion ops (i :: rest) :: k)).finish v = b.at (a.put o.dst v) (.inRegion ops rest :: k) := by
    intro v; rw [Frame.finish_at, ho]; rfl
  obtain ⟨e, w'', fr, hT, hsteps, hfn, hleave⟩ := hc (b.at a (.inRegion ops (i :: rest) :: k) :: cs)
  have henter : Go.step P (lone (b.at a (.inRegion ops (i :: rest) :: k)) cs w) =
      .next (lone (Frame.enter P g args .normal) (b.at a (.inRegion ops (i :: rest) :: k) :: cs) w') :=
    step_lone_go (by rw [hg]; simp [stepG.apply, hr, Frame.at])
  rcases h e w'' hT with ⟨v, rfl, hG⟩ | ⟨ch, rfl, hL⟩
  · obtain ⟨e, w3, fr', hR', hc, hfn', hl⟩ := hG b cs hb hk
    refine ⟨e, w3, fr', hR', hc.of_steps (.head henter (Steps.trans hsteps (.one ?_))), hfn', hl⟩
    rw [← hfin]; exact step_leave_returned hleave
  · have hs : Steps P (lone (b.at a (.inRegion ops (i :: rest) :: k)) cs w) (lone ((b.at a (.inRegion ops (i :: rest) :: k)).raise ch) cs w'') :=
      .head henter (Steps.trans hsteps (.one (step_leave_panicked hleave)))
    have e : (b.at a (.inRegion ops (i :: rest) :: k)).raise ch = { b.at a (.inRegion ops (i :: rest) :: k) with mode := .panicking ch } := by rw [Frame.raise_mode]; rfl
    obtain ⟨e', w3, fr', hR, hc, hfn, hl⟩ := leaves_steps (P := P) (fn := fn) (tmps := a.tmps) (R := R) a.defers (.panicking ch) w'' ((b.at a (.inRegion ops (i :: rest) :: k)).raise ch) cs (by rw [e]) (by rw [e]; rfl) (by rw [e]; rfl) (by rw [e]; show P.funcs[b.fn]? = _; rw [hb]; exact hf) (by rw [e]; exact hk) hL
    exact ⟨e', w3, fr', hR, hc.of_steps hs, hfn.trans (by rw [e]; exact hb), .inl ⟨rfl, hl⟩⟩

/-- what the deferred calls give, from each frame that fits -/
def Lv (P : Program) (fn : Func) (R : Ending → World → Prop) (n : Nat) (l : Sl) (D : Fx) (u : FrameMode) (w : World) : Prop := ∀ a, Fits a n l D → Leaves P fn a.tmps R a.defers u w
def pnC (P : Program) (n : Nat) (w : World) (i : Nat) (s : St) : Option (List Prop × World × Result Next) := match opOf P n w i s with
  | some (ps, w1, o, l) => some (ps, w1, (execOp (rho l) o).run P w1)
  | none => none
/-- the slots at an operation -/
def opL (P : Program) (n : Nat) (w : World) (i : Nat) (s : St) : Sl := match opOf P n w i s with
  | some (_, _, _, l) => l
  | none => []
/-- the end by a panic -/
theorem xpan (i : Nat) {fn : Func} {v : Value} (hf : P.funcs[f]? = some fn) (hR : R (.panicked [{ v, recovered := false }]) w) (h : pnC P n w i s = some ([], w, .halt (.panic v) w) := by kernel_rfl) : GoX P f R n s w := by
  unfold pnC at h
  split at h
  · rename_i ps w1 o l hop
    simp only [Option.some.injEq, Prod.mk.injEq] at h
    obtain ⟨rfl, rfl, hr⟩ := h
    obtain ⟨ops, j, rest, k, ho, h0, h1, h2, h3, hn, hg⟩ := opOf_spec hop rfl
    refine hg (fun a ha => ?_)
    refine Goes.dies hf ho (wanted_eq ha h0) (by rw [exec_eq ha h1 h2]; exact hr) ?_
    rw [ha.defers]
    exact hR
  · cases h
/-- a call that may end by a panic, in a frame that has put off nothing -/
theorem xcp (i : Nat) {fn : Func} {g : FuncId} {args : Array Value} {T : Ending → World → Prop} (hf : P.funcs[f]? = some fn) (hc : Calls P g args w T)
    (hk : ∀ e w', T e w' → (∃ v, e = .returned v ∧ GoX P f R n (nx P n w i v s) w') ∨ (∃ ch, e = .panicked ch ∧ R (.panicked ch) w')) (h : cl P n w i s = some ([], w, g, args, w) := by kernel_rfl) : GoX P f R n s w := by
  unfold cl at h
  split at h
  · rename_i ps w1 o l hop
    split at h
    · rename_i g' args' w2 hr
      simp only [Option.some.injEq, Prod.mk.injEq] at h
      obtain ⟨rfl, rfl, rfl, rfl, rfl⟩ := h
      obtain ⟨ops, j, rest, k, ho, h0, h1, h2, h3, hn, hg⟩ := opOf_spec hop rfl
      refine hg (fun a ha => ?_)
      refine Goes.calling hf ho (wanted_eq ha h0) (by rw [exec_eq ha h1 h2]; exact hr) hc (fun e w'' hT => ?_)
      rcases hk e w'' hT with ⟨v, rfl, hG⟩ | ⟨ch, rfl, hL⟩
      · rw [hn v] at hG
        exact .inl ⟨v, rfl, hG.go _ (ha.put _ _ h3)⟩
      · refine .inr ⟨ch, rfl, ?_⟩
        rw [ha.defers]; exact hL
    · cases h
  · cases h
/-- the same, in a frame that has put off calls -/
theorem opL_eq {i : Nat} {ps : List Prop} {w1 : World} {o : Oper} {l : Sl} (h : opOf P n w i s = some (ps, w1, o, l)) : opL P n w i s = l := by unfold opL; rw [h]
theorem xcd (i : Nat) {fn : Func} {g : FuncId} {args : Array Value} {T : Ending → World → Prop} {ds : List Deferred} (hf : P.funcs[f]? = some fn) (hc : Calls P g args w T)
    (hk : ∀ e w', T e w' → (∃ v, e = .returned v ∧ GoX P f R n (nx P n w i v s) w' { defers := ds }) ∨ (∃ ch, e = .panicked ch ∧ Lv P fn R n (opL P n w i s) { defers := ds } (.panicking ch) w')) (h : cl P n w i s = some ([], w, g, args, w) := by kernel_rfl) : GoX P f R n s w { defers := ds } := by
  unfold cl at h
  split at h
  · rename_i ps w1 o l hop
    split at h
    · rename_i g' args' w2 hr
      simp only [Option.some.injEq, Prod.mk.injEq] at h
      obtain ⟨rfl, rfl, rfl, rfl, rfl⟩ := h
      obtain ⟨ops, j, rest, k, ho, h0, h1, h2, h3, hn, hg⟩ := opOf_spec hop rfl
      refine hg (fun a ha => ?_)
      refine Goes.calling hf ho (wanted_eq ha h0) (by rw [exec_eq ha h1 h2]; exact hr) hc (fun e w'' hT => ?_)
      rcases hk e w'' hT with ⟨v, rfl, hG⟩ | ⟨ch, rfl, hL⟩
      · rw [hn v] at hG
        exact .inl ⟨v, rfl, hG.go _ (ha.put _ _ h3)⟩
      · rw [opL_eq hop] at hL
        exact .inr ⟨ch, rfl, hL a ha⟩
    · cases h
  · cases h
/-- a call is put off -/
theorem xdf (i : Nat) {d : Deferred} {ds : List Deferred} (hk : GoX P f R n (nx P n w i undef s) w { defers := d :: ds }) (h : pnC P n w i s = some ([], w, .ok (.defer d) w) := by kernel_rfl) : GoX P f R n s w { defers := ds } := by
  unfold pnC at h
  split at h
  · rename_i ps w1 o l hop
    simp only [Option.some.injEq, Prod.mk.injEq] at h
    obtain ⟨rfl, rfl, hr⟩ := h
    obtain ⟨ops, j, rest, k, ho, h0, h1, h2, h3, hn, hg⟩ := opOf_spec hop rfl
    refine hg (fun a ha => ?_)
    rw [hn] at hk
    refine Goes.oper ho (wanted_eq ha h0) ?_
    unfold Oper.wp
    rw [exec_eq ha h1 h2, hr]
    have := (⟨by show d :: a.defers = d :: ds; rw [ha.defers], ha.size, ha.get⟩ : Fits { a with defers := d :: a.defers } n l { defers := d :: ds })
    exact hk.go _ (this.put _ _ h3)
  · cases h
/-- the end, with calls put off -/
def rtL (P : Program) (n : Nat) (w : World) (i : Nat) (s : St) : Option (List Prop × World × Sl) :=
  match adv P n i s w with
  | some r => match r.k with
    | .code .ret :: _ => some (r.obs, r.w, r.l)
    | [] => some (r.obs, r.w, r.l)
    | _ => none
  | none => none
theorem leave_goes {fn : Func} (hf : P.funcs[f]? = some fn) (hs : ∀ (b : Frame) cs, b.fn = f → step P (lone (b.at a k) cs w) = .next (lone { b.at a k' with mode := .returning } cs w)) (h : Leaves P fn a.tmps R a.defers .returning w) : Goes P f R k a w := by
  intro b cs hb hk
  obtain ⟨e', w'', fr', hR, hc, hfn, hl⟩ := leaves_steps (P := P) (fn := fn) (tmps := a.tmps) (R := R) a.defers .returning w { b.at a k' with mode := .returning } cs rfl rfl rfl (by show P.funcs[b.fn]? = _; rw [hb]; exact hf) hk h
  exact ⟨e', w'', fr', hR, hc.of_steps (.one (hs b cs hb)), hfn.trans hb, .inl ⟨rfl, hl⟩⟩
theorem xrd (i : Nat) {fn : Func} {ds : List Deferred} (l : Sl) (hf : P.funcs[f]? = some fn) (hL : Lv P fn R n (keep l (fsts l)) { defers := ds } .returning w) (h : (rtL P n w i s).map (fun r => (r.1, r.2.1, keep r.2.2 (fsts l))) = some ([], w, keep l (fsts l)) := by kernel_rfl) : GoX P f R n s w { defers := ds } := by
  unfold rtL at h
  cases hr : adv P n i s w with
  | none => rw [hr] at h; cases h
  | some r =>
    rw [hr] at h
    have hr' := hr
    unfold adv at hr'
    simp only at h
    split at h
    · rename_i k hk
      simp only [Option.map_some, Option.some.injEq, Prod.mk.injEq] at h
      obtain ⟨ho, rfl, hl⟩ := h
      refine ⟨run_goes hr' (by rw [ho]; exact trivial) ?_⟩
      rw [hk]
      intro a ha
      have ha' := ha.keep (fsts l)
      rw [hl] at ha'
      exact leave_goes (k' := .code .ret :: k) hf (fun b cs _ => step_ret) (hL a ha')
    · rename_i hk
      simp only [Option.map_some, Option.some.injEq, Prod.mk.injEq] at h
      obtain ⟨ho, rfl, hl⟩ := h
      refine ⟨run_goes hr' (by rw [ho]; exact trivial) ?_⟩
      rw [hk]
      intro a ha
      have ha' := ha.keep (fsts l)
      rw [hl] at ha'
      exact leave_goes (k' := []) hf (fun b cs _ => step_end) (hL a ha')
    · cases h

/-! ### a deferred call that may take a panic back -/
/-- from here a deferred call comes to an end; its caller's mode is u now -/
def GoR (P : Program) (f : FuncId) (Q : Ending → FrameMode → World → Prop) (n : Nat) (u : FrameMode) (k : List Item) (l : Sl) (w : World) : Prop :=
  ∀ a, Fits a n l { kind := .deferred } → ∀ (b c : Frame) (cs : List Frame), b.fn = f → b.kind = .deferred → b.roundOf = none → c.mode = u →
    ∃ e u' w' fr, Q e u' w' ∧ Comes P (lone (b.at a k) (c :: cs) w) (lone fr ({ c with mode := u' } :: cs) w') e ∧ fr.kind = .deferred ∧ fr.going P w' e
theorem callsD_of {fn : Func} {args : Array Value} {u : FrameMode} {Q : Ending → FrameMode → World → Prop} (n : Nat) (hf : P.funcs[f]? = some fn) (h : GoR P f Q n u [.code (cd fn)] (initS args.toList 0) w)
    (hb : fn.body = some (cd fn) := by kernel_rfl) (hn : fn.ntmps = n := by kernel_rfl) (hsz : Nat.ble args.size n = true := by kernel_rfl) : CallsD P f args u w Q := by
  intro c cs hu
  let b : Frame := { (default : Frame) with fn := f, kind := .deferred }
  have henter : Frame.enter P f args .deferred =
      b.at { tmps := args ++ Array.replicate (fn.ntmps - args.size) undef, defers := [] } [.code (cd fn)] := by
    simp [Frame.enter, Frame.at, hf, hb, b]
  have hfit : Fits { tmps := args ++ Array.replicate (fn.ntmps - args.size) undef, defers := [] } n (initS args.toList 0) { kind := .deferred } := by
    refine ⟨rfl, ?_, fun t v hv => ?_⟩
    · have := Nat.le_of_ble_eq_true hsz
      simp [hn]; omega
    · obtain ⟨-, h2⟩ := look_init hv
      have h3 : t < args.toList.length := (List.getElem?_eq_some_iff.1 h2).1
      simp only [Array.length_toList] at h3
      simp only [Nat.sub_zero, Array.getElem?_toList] at h2
      show (args ++ Array.replicate (fn.ntmps - args.size) undef).getD t undef = v
      rw [Array.getD_eq_getD_getElem?, Array.getElem?_append_left h3, h2]
      rfl
  obtain ⟨e, u', w', fr, hQ, hc, hk, hg⟩ := h _ hfit b c cs rfl rfl rfl hu
  exact ⟨e, u', w', fr, hQ, henter ▸ hc, hk, hg⟩
theorem GoR.plain {Q : Ending → FrameMode → World → Prop} {u : FrameMode} {l : Sl} (h : GoS P f R n k l w { kind := .deferred }) (hq : ∀ e w', R e w' → Q e u w') : GoR P f Q n u k l w := by
  intro a ha b c cs hb hk hr hu
  obtain ⟨e, w', fr, hR, hc, hfn, hl⟩ := h a ha b (c :: cs) hb hk
  have e1 : ({ c with mode := u } : Frame) = c := by subst hu; rfl
  rcases hl with ⟨h0, _⟩ | ⟨h1, h2⟩
  · cases h0
  · exact ⟨e, u, w', fr, hq _ _ hR, by rw [e1]; exact hc, h1, h2⟩
theorem GoR.step {Q : Ending → FrameMode → World → Prop} {u : FrameMode} {l : Sl} (hs : ∀ (b : Frame) a cs, Go.step P (lone (b.at a k) cs w) = .next (lone (b.at a k') cs w)) (h : GoR P f Q n u k' l w) : GoR P f Q n u k l w := by
  intro a ha b c cs hb hk hr hu
  obtain ⟨e, u', w', fr, hQ, hc, hl⟩ := h a ha b c cs hb hk hr hu
  exact ⟨e, u', w', fr, hQ, hc.of_steps (.one (hs b a (c :: cs))), hl⟩
theorem GoR.taken {Q : Ending → FrameMode → World → Prop} {l : Sl} {ops : Array Oper} {i : Nat} {rest : List Nat} {o : Oper} {v : Value} {older : List PanicEntry} (ho : ops[i]? = some o) (h0 : wantedS ops l o = some true) (h1 : known l o.op.operands.toList = true) (h2 : noSel o.op = true) (h3 : inB n o.dst = true)
    (hr : (execOp (rho l) o).run P w = .ok .recover w) (h : GoR P f Q n (.panicking ({ v, recovered := true } :: older)) (.inRegion ops rest :: k) (putS l o.dst v) w) : GoR P f Q n (.panicking ({ v, recovered := false } :: older)) (.inRegion ops (i :: rest) :: k) l w := by
  intro a ha b c cs hb hk hro hu
  have hr' : (execOp a.eval o).run P w = .ok .recover w := by rw [exec_eq ha h1 h2]; exact hr
  obtain ⟨e, u', w', fr, hQ, hc, hl⟩ := h _ (ha.put _ _ h3) b { c with mode := .panicking ({ v, recovered := true } :: older) } cs hb hk hro rfl
  refine ⟨e, u', w', fr, hQ, hc.of_steps (.one (step_lone_go ?_)), hl⟩
  have hg := stepG_op (P := P) (b := b) (k := k) (cs := c :: cs) (w := w) (rest := rest) ho (wanted_eq ha h0)
  have hfin : ∀ v, (b.at a (.inRegion ops (i :: rest) :: k)).finish v = b.at (a.put o.dst v) (.inRegion ops rest :: k) := by
    intro v; rw [Frame.finish_at, ho]; rfl
  have hkd : (b.at a (.inRegion ops (i :: rest) :: k)).kind = .deferred := hk
  have htr := tryRecover_deferred hkd (c :: cs)
  have hrec : recoverD (c :: cs) = some (v, { c with mode := .panicking ({ v, recovered := true } :: older) } :: cs) := by
    simp [recoverD, hu]
  rw [hg, ← hfin]
  simp only [Frame.at] at htr ⊢
  simp [stepG.apply, hr', htr, hrec]
theorem GoR.none {Q : Ending → FrameMode → World → Prop} {l : Sl} {ops : Array Oper} {i : Nat} {rest : List Nat} {o : Oper} (ho : ops[i]? = some o) (h0 : wantedS ops l o = some true) (h1 : known l o.op.operands.toList = true) (h2 : noSel o.op = true) (h3 : inB n o.dst = true)
    (hr : (execOp (rho l) o).run P w = .ok .recover w) (h : GoR P f Q n .returning (.inRegion ops rest :: k) (putS l o.dst .nilIface) w) : GoR P f Q n .returning (.inRegion ops (i :: rest) :: k) l w := by
  intro a ha b c cs hb hk hro hu
  have hr' : (execOp a.eval o).run P w = .ok .recover w := by rw [exec_eq ha h1 h2]; exact hr
  obtain ⟨e, u', w', fr, hQ, hc, hl⟩ := h _ (ha.put _ _ h3) b c cs hb hk hro hu
  refine ⟨e, u', w', fr, hQ, hc.of_steps (.one (step_lone_go ?_)), hl⟩
  have hg := stepG_op (P := P) (b := b) (k := k) (cs := c :: cs) (w := w) (rest := rest) ho (wanted_eq ha h0)
  have hfin : ∀ v, (b.at a (.inRegion ops (i :: rest) :: k)).finish v = b.at (a.put o.dst v) (.inRegion ops rest :: k) := by
    intro v; rw [Frame.finish_at, ho]; rfl
  have hkd : (b.at a (.inRegion ops (i :: rest) :: k)).kind = .deferred := hk
  have htr := tryRecover_deferred hkd (c :: cs)
  have hrec : recoverD (c :: cs) = Option.none := by simp [recoverD, hu]
  rw [hg, ← hfin]
  simp only [Frame.at] at htr ⊢
  simp [stepG.apply, hr', htr, hrec]
/-- the end of a deferred frame -/
theorem xrk (i : Nat) {fn : Func} {v : Value} (hf : P.funcs[f]? = some fn) (hR : R (.returned v) w) (h : rt P n w i fn s = some ([], w, some v) := by kernel_rfl) : GoX P f R n s w { kind := .deferred } := by
  unfold rt at h
  split at h
  · rename_i r hr
    unfold adv at hr
    split at h
    · rename_i k hk
      simp only [Option.some.injEq, Prod.mk.injEq] at h
      obtain ⟨ho, rfl, hv⟩ := h
      refine ⟨run_goes hr (by rw [ho]; exact trivial) ?_⟩
      rw [hk]
      exact GoS.ret hf hv hR
    · rename_i hk
      simp only [Option.some.injEq, Prod.mk.injEq] at h
      obtain ⟨ho, rfl, hv⟩ := h
      refine ⟨run_goes hr (by rw [ho]; exact trivial) ?_⟩
      rw [hk]
      exact GoS.fin hf hv hR
    · cases h
  · cases h
end
end Go.Gw

namespace Go.Gw
set_option linter.unusedVariables false
set_option linter.unusedSimpArgs false
section
variable {P : Program} {f : FuncId} {R : Ending → World → Prop} {w w' w0 w1 : World} {n : Nat} {s : St}

def slE (P : Program) (n : Nat) (w : World) (i : Nat) (s : St) : Sl := match adv P n i s w with
  | some r => r.l
  | none => []
def rtC (P : Program) (n : Nat) (w : World) (i : Nat) (s : St) : Option (List Prop × World) :=
  match adv P n i s w with
  | some r => match r.k with
    | .code .ret :: _ => some (r.obs, r.w)
    | [] => some (r.obs, r.w)
    | _ => none
  | none => none
/-- the end, the results in variables -/
theorem xrc (i : Nat) {fn : Func} {rs : List ResultVar} {vs : List Value} {v : Value} {post : Ending → World → Prop} (hf : P.funcs[f]? = some fn) (h : ResC P w (slE P n w i s) rs vs) (hR : R = post) (hp : post (.returned v) w)
    (hv : v = oneOf vs := by rfl) (he : fn.results.toList = rs := by kernel_rfl) (hc : rtC P n w i s = some ([], w) := by kernel_rfl) : GoX P f R n s w := by
  unfold rtC at hc
  unfold slE at h
  split at hc
  · rename_i r hr
    rw [hr] at h
    simp only at h
    unfold adv at hr
    split at hc
    · rename_i k hk
      simp only [Option.some.injEq, Prod.mk.injEq] at hc
      obtain ⟨ho, rfl⟩ := hc
      refine ⟨run_goes hr (by rw [ho]; exact trivial) ?_⟩
      rw [hk]
      exact GoS.retC vs hf he h hv (hR ▸ hp)
    · rename_i hk
      simp only [Option.some.injEq, Prod.mk.injEq] at hc
      obtain ⟨ho, rfl⟩ := hc
      refine ⟨run_goes hr (by rw [ho]; exact trivial) ?_⟩
      rw [hk]
      exact GoS.finC vs hf he h hv (hR ▸ hp)
    · cases hc
  · cases hc

/-- a variable's row lent, and taken back -/
theorem Mem.lend1 {S : List Nat} {L : List Row} {T : TypeId} {k b : Nat} {xs : List Value} (h : Mem S w0 w (⟨T, k, obj b, 1, xs⟩ :: L)) : Mem [b] w w [⟨T, k, obj b, 1, xs⟩] := Mem.lend (R := [⟨T, k, obj b, 1, xs⟩]) (L := L) h
theorem Mem.back1 {S : List Nat} {L R : List Row} {T : TypeId} {k b : Nat} {xs : List Value} (h : Mem S w0 w (⟨T, k, obj b, 1, xs⟩ :: L)) (c : Mem [b] w w' R) : Mem S w0 w' (R ++ L) := Mem.back (R := [⟨T, k, obj b, 1, xs⟩]) (L := L) h c
theorem Mem.fall {b : Nat} {L : List Row} (h : Mem [b] w0 w L) (c : Mem [b] w w' []) : Mem [b] w0 w' [] := ⟨h.kept.trans c.kept, (fun _ h => by cases h), trivial, (fun _ h => by cases h)⟩
theorem Mem.none {S : List Nat} {L : List Row} (h : Mem S w0 w L) : Mem S w0 w [] := h.sub sN

/-- gives a value of a kind, or a panic that tells a place -/
abbrev Pst {α : Type} (flt : Nat → List PanicEntry) (spec : Except Nat α) (Q : α → Value → World → Prop) (b : Nat) (w : World) : Ending → World → Prop := fun e w' =>
  (∃ a v, spec = .ok a ∧ e = .returned v ∧ Q a v w') ∨ (∃ k, spec = .error k ∧ e = .panicked (flt k) ∧ Mem [b] w w' [])
theorem xkp (i : Nat) {fn : Func} {g : FuncId} {args : Array Value} {α : Type} {flt : Nat → List PanicEntry} {spec : Except Nat α} {Q : α → Value → World → Prop} {b : Nat} (hf : P.funcs[f]? = some fn) (hc : Calls P g args w (Pst flt spec Q b w))
    (he : ∀ k w', spec = .error k → Mem [b] w w' [] → R (.panicked (flt k)) w') (hk : ∀ a v w', spec = .ok a → Q a v w' → GoX P f R n (nx P n w i v s) w') (h : cl P n w i s = some ([], w, g, args, w) := by kernel_rfl) : GoX P f R n s w :=
  xcp i hf hc (fun e w' hT => hT.elim (fun ⟨a, v, h1, h2, h3⟩ => .inl ⟨v, h2, hk a v w' h1 h3⟩) (fun ⟨k, h1, h2, h3⟩ => .inr ⟨_, h2, he k w' h1 h3⟩)) h
/-- a call that surely ends by a panic -/
theorem xkd (i : Nat) {fn : Func} {g : FuncId} {args : Array Value} {ch : List PanicEntry} {Q : World → Prop} (hf : P.funcs[f]? = some fn) (hc : Calls P g args w (fun e w' => e = .panicked ch ∧ Q w')) (hk : ∀ w', Q w' → R (.panicked ch) w') (h : cl P n w i s = some ([], w, g, args, w) := by kernel_rfl) : GoX P f R n s w :=
  xcp i hf hc (fun e w' hT => .inr ⟨ch, hT.1, hk w' hT.2⟩) h
end
end Go.Gw

namespace Go.Proofs.YthpodbngljfdmaaGreatDoor
open Go Go.Gw Go.UtfP Go.TokP Go.RowKit
set_option linter.unusedVariables false
set_option linter.unusedSimpArgs false
set_option maxRecDepth 20000

abbrev uUtfC0 : List Nat := [1,0,0,1,1,1,1,1]
set_option maxHeartbeats 400000 in
theorem whole_c (c : Int) (w : World) :
  Calls Tryz.prog 110 #[.int .i64 c] w (fun e w' => e = .returned (.bool (whole c)) ∧ w = w') := by
 refine xe 17 Tryz.func110 (fun R hR => ?_)
 refine xfc 9 5 (c ≥ 0) (fun h1p => ?_) (fun h1p => ?_)
 ·
  refine xfc 4 9 (c ≤ 1114111) (fun h2p => ?_) (fun h2p => ?_)
  ·
   refine xfc 3 12 (c < 55296) (fun h3p => ?_) (fun h3p => ?_)
   ·
    exact xr 6 (v := .bool true) Tryz.func110 hR ⟨ret_bool (by rw [Bool.eq_iff_iff]; simp [whole]; try omega), rfl⟩
   ·
    exact xr 6 (v := .bool (decide (c > 57343))) Tryz.func110 hR ⟨ret_bool (by rw [Bool.eq_iff_iff]; simp [whole]; try omega), rfl⟩
  ·
   exact xr 9 (v := .bool false) Tryz.func110 hR ⟨ret_bool (by rw [Bool.eq_iff_iff]; simp [whole]; try omega), rfl⟩
 ·
  exact xr 13 (v := .bool false) Tryz.func110 hR ⟨ret_bool (by rw [Bool.eq_iff_iff]; simp [whole]; try omega), rfl⟩

set_option maxHeartbeats 400000 in
theorem letter_c (c : Int) (w : World) :
  Calls Tryz.prog 83 #[.int .i64 c] w (fun e w' => e = .returned (.bool (letter c)) ∧ w = w') := by
 refine xe 56 Tryz.func83 (fun R hR => ?_)
 have J2 : GoS Tryz.prog 83 R 56 [.inRegion (cops (csub (cd Tryz.f83) [1,0,0,0,0])) [], iC Tryz.f83 [1,0,0,0,1], iC Tryz.f83 [1,0,0,1], .inBlock 0, iC Tryz.f83 [1,1]] [(0, .int .i64 c), (3, .bool ((decide (c ≥ 97)) && (decide (c ≤ 122))))] w := by
  refine xs ?_
  have J9 : GoS Tryz.prog 83 R 56 [iC Tryz.f83 [1,0,0,1], .inBlock 0, iC Tryz.f83 [1,1]] [(0, .int .i64 c), (3, .bool (bif ((decide (c ≥ 97)) && (decide (c ≤ 122))) then ((decide (c ≥ 97)) && (decide (c ≤ 122))) else (bif ((decide (c ≥ 65)) && (decide (c ≤ 90))) then ((decide (c ≥ 65)) && (decide (c ≤ 90))) else ((decide (c ≥ 48)) && (decide (c ≤ 57))))))] w := by
   refine xs ?_
   refine xb 0 (bif ((decide (c ≥ 97)) && (decide (c ≤ 122))) then ((decide (c ≥ 97)) && (decide (c ≤ 122))) else (bif ((decide (c ≥ 65)) && (decide (c ≤ 90))) then ((decide (c ≥ 65)) && (decide (c ≤ 90))) else ((decide (c ≥ 48)) && (decide (c ≤ 57))))) (fun h10 => ?_) (fun h10 => ?_)
   ·
    have h10p : (((c ≥ 97) ∧ (c ≤ 122)) ∧ ((c ≥ 97) ∧ (c ≤ 122))) ∨ (¬ ((c ≥ 97) ∧ (c ≤ 122)) ∧ ((((c ≥ 65) ∧ (c ≤ 90)) ∧ ((c ≥ 65) ∧ (c ≤ 90))) ∨ (¬ ((c ≥ 65) ∧ (c ≤ 90)) ∧ ((c ≥ 48) ∧ (c ≤ 57))))) := (p_ibif (p_iand (@decide_eq_true_iff (c ≥ 97) _) (@decide_eq_true_iff (c ≤ 122) _)) (p_iand (@decide_eq_true_iff (c ≥ 97) _) (@decide_eq_true_iff (c ≤ 122) _)) (p_ibif (p_iand (@decide_eq_true_iff (c ≥ 65) _) (@decide_eq_true_iff (c ≤ 90) _)) (p_iand (@decide_eq_true_iff (c ≥ 65) _) (@decide_eq_true_iff (c ≤ 90) _)) (p_iand (@decide_eq_true_iff (c ≥ 48) _) (@decide_eq_true_iff (c ≤ 57) _)))).1 h10
    exact xr 4 (v := .bool true) Tryz.func83 hR ⟨ret_bool (letter_t (by unfold LetterP; omega)), rfl⟩
   ·
    have h10p : ¬ ((((c ≥ 97) ∧ (c ≤ 122)) ∧ ((c ≥ 97) ∧ (c ≤ 122))) ∨ (¬ ((c ≥ 97) ∧ (c ≤ 122)) ∧ ((((c ≥ 65) ∧ (c ≤ 90)) ∧ ((c ≥ 65) ∧ (c ≤ 90))) ∨ (¬ ((c ≥ 65) ∧ (c ≤ 90)) ∧ ((c ≥ 48) ∧ (c ≤ 57)))))) := p_no (p_ibif (p_iand (@decide_eq_true_iff (c ≥ 97) _) (@decide_eq_true_iff (c ≤ 122) _)) (p_iand (@decide_eq_true_iff (c ≥ 97) _) (@decide_eq_true_iff (c ≤ 122) _)) (p_ibif (p_iand (@decide_eq_true_iff (c ≥ 65) _) (@decide_eq_true_iff (c ≤ 90) _)) (p_iand (@decide_eq_true_iff (c ≥ 65) _) (@decide_eq_true_iff (c ≤ 90) _)) (p_iand (@decide_eq_true_iff (c ≥ 48) _) (@decide_eq_true_iff (c ≤ 57) _)))) h10
    have J14 : GoS Tryz.prog 83 R 56 [.inRegion (cops (csub (cd Tryz.f83) [1,0,0,1,1,0])) [], iC Tryz.f83 [1,0,0,1,1,1], .inBlock 0, iC Tryz.f83 [1,1]] [(0, .int .i64 c), (22, .bool ((c == 215) || ((c == 247) || ((c == 894) || (c == 1154)))))] w := by
     refine xs ?_
     refine xb 1 ((c == 215) || ((c == 247) || ((c == 894) || (c == 1154)))) (fun h15 => ?_) (fun h15 => ?_)
     ·
      have h15p : (c = 215) ∨ ((c = 247) ∨ ((c = 894) ∨ (c = 1154))) := (p_ior (@beq_iff_eq _ _ _ (c) (215)) (p_ior (@beq_iff_eq _ _ _ (c) (247)) (p_ior (@beq_iff_eq _ _ _ (c) (894)) (@beq_iff_eq _ _ _ (c) (1154))))).1 h15
      exact xr 4 (v := .bool false) Tryz.func83 hR ⟨ret_bool (letter_f (by unfold LetterP; omega)), rfl⟩
     ·
      have h15p : ¬ (c = 215) := p_ne (p_orl h15)
      have h15p1 : ¬ (c = 247) := p_ne (p_orl (p_orr h15))
      have h15p2 : ¬ (c = 894) := p_ne (p_orl (p_orr (p_orr h15)))
      have h15p3 : ¬ (c = 1154) := p_ne (p_orr (p_orr (p_orr h15)))
      have J17 : GoS Tryz.prog 83 R 56 [.inRegion (cops (csub (cd Tryz.f83) [1,0,0,1,1,1,1,0,0])) [], iC Tryz.f83 [1,0,0,1,1,1,1,0,1], iC Tryz.f83 uUtfC0, .inBlock 0, iC Tryz.f83 [1,1]] [(0, .int .i64 c), (37, .bool ((decide (c ≥ 192)) && (decide (c ≤ 591))))] w := by
       refine xs ?_
       have J24 : GoS Tryz.prog 83 R 56 [iC Tryz.f83 uUtfC0, .inBlock 0, iC Tryz.f83 [1,1]] [(37, .bool (bif ((decide (c ≥ 192)) && (decide (c ≤ 591))) then ((decide (c ≥ 192)) && (decide (c ≤ 591))) else (bif ((decide (c ≥ 880)) && (decide (c ≤ 1327))) then ((decide (c ≥ 880)) && (decide (c ≤ 1327))) else ((decide (c ≥ 19968)) && (decide (c ≤ 40959))))))] w := by
        refine xs ?_
        refine xb 0 (bif ((decide (c ≥ 192)) && (decide (c ≤ 591))) then ((decide (c ≥ 192)) && (decide (c ≤ 591))) else (bif ((decide (c ≥ 880)) && (decide (c ≤ 1327))) then ((decide (c ≥ 880)) && (decide (c ≤ 1327))) else ((decide (c ≥ 19968)) && (decide (c ≤ 40959))))) (fun h25 => ?_) (fun h25 => ?_)
        ·
         have h25p : (((c ≥ 192) ∧ (c ≤ 591)) ∧ ((c ≥ 192) ∧ (c ≤ 591))) ∨ (¬ ((c ≥ 192) ∧ (c ≤ 591)) ∧ ((((c ≥ 880) ∧ (c ≤ 1327)) ∧ ((c ≥ 880) ∧ (c ≤ 1327))) ∨ (¬ ((c ≥ 880) ∧ (c ≤ 1327)) ∧ ((c ≥ 19968) ∧ (c ≤ 40959))))) := (p_ibif (p_iand (@decide_eq_true_iff (c ≥ 192) _) (@decide_eq_true_iff (c ≤ 591) _)) (p_iand (@decide_eq_true_iff (c ≥ 192) _) (@decide_eq_true_iff (c ≤ 591) _)) (p_ibif (p_iand (@decide_eq_true_iff (c ≥ 880) _) (@decide_eq_true_iff (c ≤ 1327) _)) (p_iand (@decide_eq_true_iff (c ≥ 880) _) (@decide_eq_true_iff (c ≤ 1327) _)) (p_iand (@decide_eq_true_iff (c ≥ 19968) _) (@decide_eq_true_iff (c ≤ 40959) _)))).1 h25
         exact xr 4 (v := .bool true) Tryz.func83 hR ⟨ret_bool (letter_t (by unfold LetterP; omega)), rfl⟩
        ·
         have h25p : ¬ ((((c ≥ 192) ∧ (c ≤ 591)) ∧ ((c ≥ 192) ∧ (c ≤ 591))) ∨ (¬ ((c ≥ 192) ∧ (c ≤ 591)) ∧ ((((c ≥ 880) ∧ (c ≤ 1327)) ∧ ((c ≥ 880) ∧ (c ≤ 1327))) ∨ (¬ ((c ≥ 880) ∧ (c ≤ 1327)) ∧ ((c ≥ 19968) ∧ (c ≤ 40959)))))) := p_no (p_ibif (p_iand (@decide_eq_true_iff (c ≥ 192) _) (@decide_eq_true_iff (c ≤ 591) _)) (p_iand (@decide_eq_true_iff (c ≥ 192) _) (@decide_eq_true_iff (c ≤ 591) _)) (p_ibif (p_iand (@decide_eq_true_iff (c ≥ 880) _) (@decide_eq_true_iff (c ≤ 1327) _)) (p_iand (@decide_eq_true_iff (c ≥ 880) _) (@decide_eq_true_iff (c ≤ 1327) _)) (p_iand (@decide_eq_true_iff (c ≥ 19968) _) (@decide_eq_true_iff (c ≤ 40959) _)))) h25
         exact xr 6 (v := .bool false) Tryz.func83 hR ⟨ret_bool (letter_f (by unfold LetterP; omega)), rfl⟩
       refine xb 1 ((decide (c ≥ 192)) && (decide (c ≤ 591))) (fun h18 => ?_) (fun h18 => ?_)
       ·
        have h18p : c ≥ 192 := of_decide_eq_true (p_andl h18)
        have h18p1 : c ≤ 591 := of_decide_eq_true (p_andr h18)
        exact xl 1 (l := [(37, .bool ((decide (c ≥ 192)) && (decide (c ≤ 591))))]) (GoS.cast (by first | (simp only [h18, cond_true, cond_false, Bool.true_and, Bool.false_and, Bool.true_or, Bool.false_or, Bool.not_true, Bool.not_false, Bool.and_true, Bool.and_false, Bool.or_true, Bool.or_false]) | (simp [h18])) J24)
       ·
        have h18p : ¬ ((c ≥ 192) ∧ (c ≤ 591)) := p_no (p_iand (@decide_eq_true_iff (c ≥ 192) _) (@decide_eq_true_iff (c ≤ 591) _)) h18
        have J20 : GoS Tryz.prog 83 R 56 [.inRegion (cops (csub (cd Tryz.f83) [1,0,0,1,1,1,1,0,1,1,0])) [], iC Tryz.f83 [1,0,0,1,1,1,1,0,1,1,1], iC Tryz.f83 uUtfC0, .inBlock 0, iC Tryz.f83 [1,1]] [(0, .int .i64 c), (37, .bool ((decide (c ≥ 880)) && (decide (c ≤ 1327))))] w := by
         refine xs ?_
         refine xb 1 ((decide (c ≥ 880)) && (decide (c ≤ 1327))) (fun h21 => ?_) (fun h21 => ?_)
         ·
          have h21p : c ≥ 880 := of_decide_eq_true (p_andl h21)
          have h21p1 : c ≤ 1327 := of_decide_eq_true (p_andr h21)
          exact xl 1 (l := [(37, .bool ((decide (c ≥ 880)) && (decide (c ≤ 1327))))]) (GoS.cast (by first | (simp only [h18, h21, cond_true, cond_false, Bool.true_and, Bool.false_and, Bool.true_or, Bool.false_or, Bool.not_true, Bool.not_false, Bool.and_true, Bool.and_false, Bool.or_true, Bool.or_false]) | (simp [h18, h21])) J24)
         ·
          have h21p : ¬ ((c ≥ 880) ∧ (c ≤ 1327)) := p_no (p_iand (@decide_eq_true_iff (c ≥ 880) _) (@decide_eq_true_iff (c ≤ 1327) _)) h21
          have J23 : GoS Tryz.prog 83 R 56 [.inRegion (cops (csub (cd Tryz.f83) [1,0,0,1,1,1,1,0,1,1,1,1])) [], iC Tryz.f83 uUtfC0, .inBlock 0, iC Tryz.f83 [1,1]] [(37, .bool ((decide (c ≥ 19968)) && (decide (c ≤ 40959))))] w := by
           refine xs ?_
           exact xl 1 (l := [(37, .bool ((decide (c ≥ 19968)) && (decide (c ≤ 40959))))]) (GoS.cast (by first | (simp only [h18, h21, cond_true, cond_false, Bool.true_and, Bool.false_and, Bool.true_or, Bool.false_or, Bool.not_true, Bool.not_false, Bool.and_true, Bool.and_false, Bool.or_true, Bool.or_false]) | (simp [h18, h21])) J24)
          refine xfc 4 52 (c ≥ 19968) (fun h22p => ?_) (fun h22p => ?_)
          ·
           have h22 : (decide (c ≥ 19968)) = true := decide_eq_true h22p
           exact xl 4 (l := [(37, .bool (decide (c ≤ 40959)))]) (GoS.cast (by first | (simp only [h22, cond_true, cond_false, Bool.true_and, Bool.false_and, Bool.true_or, Bool.false_or, Bool.not_true, Bool.not_false, Bool.and_true, Bool.and_false, Bool.or_true, Bool.or_false]) | (simp [h22])) J23)
          ·
           have h22 : (decide (c ≥ 19968)) = false := decide_eq_false h22p
           exact xl 4 (l := [(37, .bool false)]) (GoS.cast (by first | (simp only [h22, cond_true, cond_false, Bool.true_and, Bool.false_and, Bool.true_or, Bool.false_or, Bool.not_true, Bool.not_false, Bool.and_true, Bool.and_false, Bool.or_true, Bool.or_false]) | (simp [h22])) J23)
        refine xfc 5 46 (c ≥ 880) (fun h19p => ?_) (fun h19p => ?_)
        ·
         have h19 : (decide (c ≥ 880)) = true := decide_eq_true h19p
         exact xl 4 (l := [(0, .int .i64 c), (37, .bool (decide (c ≤ 1327)))]) (GoS.cast (by first | (simp only [h19, cond_true, cond_false, Bool.true_and, Bool.false_and, Bool.true_or, Bool.false_or, Bool.not_true, Bool.not_false, Bool.and_true, Bool.and_false, Bool.or_true, Bool.or_false]) | (simp [h19])) J20)
        ·
         have h19 : (decide (c ≥ 880)) = false := decide_eq_false h19p
         exact xl 4 (l := [(0, .int .i64 c), (37, .bool false)]) (GoS.cast (by first | (simp only [h19, cond_true, cond_false, Bool.true_and, Bool.false_and, Bool.true_or, Bool.false_or, Bool.not_true, Bool.not_false, Bool.and_true, Bool.and_false, Bool.or_true, Bool.or_false]) | (simp [h19])) J20)
      refine xfc 6 40 (c ≥ 192) (fun h16p => ?_) (fun h16p => ?_)
      ·
       have h16 : (decide (c ≥ 192)) = true := decide_eq_true h16p
       exact xl 4 (l := [(0, .int .i64 c), (37, .bool (decide (c ≤ 591)))]) (GoS.cast (by first | (simp only [h16, cond_true, cond_false, Bool.true_and, Bool.false_and, Bool.true_or, Bool.false_or, Bool.not_true, Bool.not_false, Bool.and_true, Bool.and_false, Bool.or_true, Bool.or_false]) | (simp [h16])) J17)
      ·
       have h16 : (decide (c ≥ 192)) = false := decide_eq_false h16p
       exact xl 4 (l := [(0, .int .i64 c), (37, .bool false)]) (GoS.cast (by first | (simp only [h16, cond_true, cond_false, Bool.true_and, Bool.false_and, Bool.true_or, Bool.false_or, Bool.not_true, Bool.not_false, Bool.and_true, Bool.and_false, Bool.or_true, Bool.or_false]) | (simp [h16])) J17)
    refine xfc 5 25 (c = 215) (fun h11p => ?_) (fun h11p => ?_)
    ·
     have h11 : (c == 215) = true := by simpa using h11p
     exact xl 12 (l := [(0, .int .i64 c), (22, .bool true)]) (GoS.cast (by first | (simp only [h11, cond_true, cond_false, Bool.true_and, Bool.false_and, Bool.true_or, Bool.false_or, Bool.not_true, Bool.not_false, Bool.and_true, Bool.and_false, Bool.or_true, Bool.or_false]) | (simp [h11])) J14)
    ·
     have h11 : (c == 215) = false := by simpa using h11p
     refine xfc 4 29 (c = 247) (fun h12p => ?_) (fun h12p => ?_)
     ·
      have h12 : (c == 247) = true := by simpa using h12p
      exact xl 8 (l := [(0, .int .i64 c), (22, .bool true)]) (GoS.cast (by first | (simp only [h11, h12, cond_true, cond_false, Bool.true_and, Bool.false_and, Bool.true_or, Bool.false_or, Bool.not_true, Bool.not_false, Bool.and_true, Bool.and_false, Bool.or_true, Bool.or_false]) | (simp [h11, h12])) J14)
     ·
      have h12 : (c == 247) = false := by simpa using h12p
      refine xfc 4 33 (c = 894) (fun h13p => ?_) (fun h13p => ?_)
      ·
       have h13 : (c == 894) = true := by simpa using h13p
       exact xl 4 (l := [(0, .int .i64 c), (22, .bool true)]) (GoS.cast (by first | (simp only [h11, h12, h13, cond_true, cond_false, Bool.true_and, Bool.false_and, Bool.true_or, Bool.false_or, Bool.not_true, Bool.not_false, Bool.and_true, Bool.and_false, Bool.or_true, Bool.or_false]) | (simp [h11, h12, h13])) J14)
      ·
       have h13 : (c == 894) = false := by simpa using h13p
       exact xl 4 (l := [(0, .int .i64 c), (22, .bool (c == 1154))]) (GoS.cast (by first | (simp only [h11, h12, h13, cond_true, cond_false, Bool.true_and, Bool.false_and, Bool.true_or, Bool.false_or, Bool.not_true, Bool.not_false, Bool.and_true, Bool.and_false, Bool.or_true, Bool.or_false]) | (simp [h11, h12, h13])) J14)
  refine xb 1 ((decide (c ≥ 97)) && (decide (c ≤ 122))) (fun h3 => ?_) (fun h3 => ?_)
  ·
   have h3p : c ≥ 97 := of_decide_eq_true (p_andl h3)
   have h3p1 : c ≤ 122 := of_decide_eq_true (p_andr h3)
   exact xl 1 (l := [(0, .int .i64 c), (3, .bool ((decide (c ≥ 97)) && (decide (c ≤ 122))))]) (GoS.cast (by first | (simp only [h3, cond_true, cond_false, Bool.true_and, Bool.false_and, Bool.true_or, Bool.false_or, Bool.not_true, Bool.not_false, Bool.and_true, Bool.and_false, Bool.or_true, Bool.or_false]) | (simp [h3])) J9)
  ·
   have h3p : ¬ ((c ≥ 97) ∧ (c ≤ 122)) := p_no (p_iand (@decide_eq_true_iff (c ≥ 97) _) (@decide_eq_true_iff (c ≤ 122) _)) h3
   have J5 : GoS Tryz.prog 83 R 56 [.inRegion (cops (csub (cd Tryz.f83) [1,0,0,0,1,1,0])) [], iC Tryz.f83 [1,0,0,0,1,1,1], iC Tryz.f83 [1,0,0,1], .inBlock 0, iC Tryz.f83 [1,1]] [(0, .int .i64 c), (3, .bool ((decide (c ≥ 65)) && (decide (c ≤ 90))))] w := by
    refine xs ?_
    refine xb 1 ((decide (c ≥ 65)) && (decide (c ≤ 90))) (fun h6 => ?_) (fun h6 => ?_)
    ·
     have h6p : c ≥ 65 := of_decide_eq_true (p_andl h6)
     have h6p1 : c ≤ 90 := of_decide_eq_true (p_andr h6)
     exact xl 1 (l := [(0, .int .i64 c), (3, .bool ((decide (c ≥ 65)) && (decide (c ≤ 90))))]) (GoS.cast (by first | (simp only [h3, h6, cond_true, cond_false, Bool.true_and, Bool.false_and, Bool.true_or, Bool.false_or, Bool.not_true, Bool.not_false, Bool.and_true, Bool.and_false, Bool.or_true, Bool.or_false]) | (simp [h3, h6])) J9)
    ·
     have h6p : ¬ ((c ≥ 65) ∧ (c ≤ 90)) := p_no (p_iand (@decide_eq_true_iff (c ≥ 65) _) (@decide_eq_true_iff (c ≤ 90) _)) h6
     have J8 : GoS Tryz.prog 83 R 56 [.inRegion (cops (csub (cd Tryz.f83) [1,0,0,0,1,1,1,1])) [], iC Tryz.f83 [1,0,0,1], .inBlock 0, iC Tryz.f83 [1,1]] [(0, .int .i64 c), (3, .bool ((decide (c ≥ 48)) && (decide (c ≤ 57))))] w := by
      refine xs ?_
      exact xl 1 (l := [(0, .int .i64 c), (3, .bool ((decide (c ≥ 48)) && (decide (c ≤ 57))))]) (GoS.cast (by first | (simp only [h3, h6, cond_true, cond_false, Bool.true_and, Bool.false_and, Bool.true_or, Bool.false_or, Bool.not_true, Bool.not_false, Bool.and_true, Bool.and_false, Bool.or_true, Bool.or_false]) | (simp [h3, h6])) J9)
     refine xfc 4 18 (c ≥ 48) (fun h7p => ?_) (fun h7p => ?_)
     ·
      have h7 : (decide (c ≥ 48)) = true := decide_eq_true h7p
      exact xl 4 (l := [(0, .int .i64 c), (3, .bool (decide (c ≤ 57)))]) (GoS.cast (by first | (simp only [h7, cond_true, cond_false, Bool.true_and, Bool.false_and, Bool.true_or, Bool.false_or, Bool.not_true, Bool.not_false, Bool.and_true, Bool.and_false, Bool.or_true, Bool.or_false]) | (simp [h7])) J8)
     ·
      have h7 : (decide (c ≥ 48)) = false := decide_eq_false h7p
      exact xl 4 (l := [(0, .int .i64 c), (3, .bool false)]) (GoS.cast (by first | (simp only [h7, cond_true, cond_false, Bool.true_and, Bool.false_and, Bool.true_or, Bool.false_or, Bool.not_true, Bool.not_false, Bool.and_true, Bool.and_false, Bool.or_true, Bool.or_false]) | (simp [h7])) J8)
   refine xfc 5 12 (c ≥ 65) (fun h4p => ?_) (fun h4p => ?_)
   ·
    have h4 : (decide (c ≥ 65)) = true := decide_eq_true h4p
    exact xl 4 (l := [(0, .int .i64 c), (3, .bool (decide (c ≤ 90)))]) (GoS.cast (by first | (simp only [h4, cond_true, cond_false, Bool.true_and, Bool.false_and, Bool.true_or, Bool.false_or, Bool.not_true, Bool.not_false, Bool.and_true, Bool.and_false, Bool.or_true, Bool.or_false]) | (simp [h4])) J5)
   ·
    have h4 : (decide (c ≥ 65)) = false := decide_eq_false h4p
    exact xl 4 (l := [(0, .int .i64 c), (3, .bool false)]) (GoS.cast (by first | (simp only [h4, cond_true, cond_false, Bool.true_and, Bool.false_and, Bool.true_or, Bool.false_or, Bool.not_true, Bool.not_false, Bool.and_true, Bool.and_false, Bool.or_true, Bool.or_false]) | (simp [h4])) J5)
 refine xfc 12 6 (c ≥ 97) (fun h1p => ?_) (fun h1p => ?_)
 ·
  have h1 : (decide (c ≥ 97)) = true := decide_eq_true h1p
  exact xl 4 (l := [(0, .int .i64 c), (3, .bool (decide (c ≤ 122)))]) (GoS.cast (by first | (simp only [h1, cond_true, cond_false, Bool.true_and, Bool.false_and, Bool.true_or, Bool.false_or, Bool.not_true, Bool.not_false, Bool.and_true, Bool.and_false, Bool.or_true, Bool.or_false]) | (simp [h1])) J2)
 ·
  have h1 : (decide (c ≥ 97)) = false := decide_eq_false h1p
  exact xl 4 (l := [(0, .int .i64 c), (3, .bool false)]) (GoS.cast (by first | (simp only [h1, cond_true, cond_false, Bool.true_and, Bool.false_and, Bool.true_or, Bool.false_or, Bool.not_true, Bool.not_false, Bool.and_true, Bool.and_false, Bool.or_true, Bool.or_false]) | (simp [h1])) J2)

set_option maxHeartbeats 400000 in
theorem fold_c (c : Int) (w : World) :
  Calls Tryz.prog 84 #[.int .i64 c] w (fun e w' => e = .returned (.int .i64 (fold c)) ∧ w = w') := by
 refine xe 51 Tryz.func84 (fun R hR => ?_)
 have J2 : GoS Tryz.prog 84 R 51 [.inRegion (cops (csub (cd Tryz.f84) [1,0,0,0,0])) [], iC Tryz.f84 [1,0,0,0,1], iC Tryz.f84 [1,0,0,1], .inBlock 0, iC Tryz.f84 [1,1]] [(0, .int .i64 c), (3, .bool ((decide (c ≥ 65)) && (decide (c ≤ 90))))] w := by
  refine xs ?_
  have J14 : GoS Tryz.prog 84 R 51 [iC Tryz.f84 [1,0,0,1], .inBlock 0, iC Tryz.f84 [1,1]] [(0, .int .i64 c), (3, .bool (bif ((decide (c ≥ 65)) && (decide (c ≤ 90))) then ((decide (c ≥ 65)) && (decide (c ≤ 90))) else (bif ((decide (c ≥ 192)) && ((decide (c ≤ 222)) && (c != 215))) then ((decide (c ≥ 192)) && ((decide (c ≤ 222)) && (c != 215))) else (bif ((decide (c ≥ 913)) && ((decide (c ≤ 937)) && (c != 930))) then ((decide (c ≥ 913)) && ((decide (c ≤ 937)) && (c != 930))) else ((decide (c ≥ 1040)) && (decide (c ≤ 1071)))))))] w := by
   refine xs ?_
   refine xb 0 (bif ((decide (c ≥ 65)) && (decide (c ≤ 90))) then ((decide (c ≥ 65)) && (decide (c ≤ 90))) else (bif ((decide (c ≥ 192)) && ((decide (c ≤ 222)) && (c != 215))) then ((decide (c ≥ 192)) && ((decide (c ≤ 222)) && (c != 215))) else (bif ((decide (c ≥ 913)) && ((decide (c ≤ 937)) && (c != 930))) then ((decide (c ≥ 913)) && ((decide (c ≤ 937)) && (c != 930))) else ((decide (c ≥ 1040)) && (decide (c ≤ 1071)))))) (fun h15 => ?_) (fun h15 => ?_)
   ·
    have h15p : (((c ≥ 65) ∧ (c ≤ 90)) ∧ ((c ≥ 65) ∧ (c ≤ 90))) ∨ (¬ ((c ≥ 65) ∧ (c ≤ 90)) ∧ ((((c ≥ 192) ∧ ((c ≤ 222) ∧ (¬ (c = 215)))) ∧ ((c ≥ 192) ∧ ((c ≤ 222) ∧ (¬ (c = 215))))) ∨ (¬ ((c ≥ 192) ∧ ((c ≤ 222) ∧ (¬ (c = 215)))) ∧ ((((c ≥ 913) ∧ ((c ≤ 937) ∧ (¬ (c = 930)))) ∧ ((c ≥ 913) ∧ ((c ≤ 937) ∧ (¬ (c = 930))))) ∨ (¬ ((c ≥ 913) ∧ ((c ≤ 937) ∧ (¬ (c = 930)))) ∧ ((c ≥ 1040) ∧ (c ≤ 1071))))))) := (p_ibif (p_iand (@decide_eq_true_iff (c ≥ 65) _) (@decide_eq_true_iff (c ≤ 90) _)) (p_iand (@decide_eq_true_iff (c ≥ 65) _) (@decide_eq_true_iff (c ≤ 90) _)) (p_ibif (p_iand (@decide_eq_true_iff (c ≥ 192) _) (p_iand (@decide_eq_true_iff (c ≤ 222) _) (@bne_iff_ne _ _ _ (c) (215)))) (p_iand (@decide_eq_true_iff (c ≥ 192) _) (p_iand (@decide_eq_true_iff (c ≤ 222) _) (@bne_iff_ne _ _ _ (c) (215)))) (p_ibif (p_iand (@decide_eq_true_iff (c ≥ 913) _) (p_iand (@decide_eq_true_iff (c ≤ 937) _) (@bne_iff_ne _ _ _ (c) (930)))) (p_iand (@decide_eq_true_iff (c ≥ 913) _) (p_iand (@decide_eq_true_iff (c ≤ 937) _) (@bne_iff_ne _ _ _ (c) (930)))) (p_iand (@decide_eq_true_iff (c ≥ 1040) _) (@decide_eq_true_iff (c ≤ 1071) _))))).1 h15
    refine xa 3 c 32 (c + 32) ?_
    exact xr 2 (v := .int .i64 (c + 32)) Tryz.func84 hR ⟨ret_int (by unfold fold UpP; (repeat' split) <;> omega), rfl⟩
   ·
    have h15p : ¬ ((((c ≥ 65) ∧ (c ≤ 90)) ∧ ((c ≥ 65) ∧ (c ≤ 90))) ∨ (¬ ((c ≥ 65) ∧ (c ≤ 90)) ∧ ((((c ≥ 192) ∧ ((c ≤ 222) ∧ (¬ (c = 215)))) ∧ ((c ≥ 192) ∧ ((c ≤ 222) ∧ (¬ (c = 215))))) ∨ (¬ ((c ≥ 192) ∧ ((c ≤ 222) ∧ (¬ (c = 215)))) ∧ ((((c ≥ 913) ∧ ((c ≤ 937) ∧ (¬ (c = 930)))) ∧ ((c ≥ 913) ∧ ((c ≤ 937) ∧ (¬ (c = 930))))) ∨ (¬ ((c ≥ 913) ∧ ((c ≤ 937) ∧ (¬ (c = 930)))) ∧ ((c ≥ 1040) ∧ (c ≤ 1071)))))))) := p_no (p_ibif (p_iand (@decide_eq_true_iff (c ≥ 65) _) (@decide_eq_true_iff (c ≤ 90) _)) (p_iand (@decide_eq_true_iff (c ≥ 65) _) (@decide_eq_true_iff (c ≤ 90) _)) (p_ibif (p_iand (@decide_eq_true_iff (c ≥ 192) _) (p_iand (@decide_eq_true_iff (c ≤ 222) _) (@bne_iff_ne _ _ _ (c) (215)))) (p_iand (@decide_eq_true_iff (c ≥ 192) _) (p_iand (@decide_eq_true_iff (c ≤ 222) _) (@bne_iff_ne _ _ _ (c) (215)))) (p_ibif (p_iand (@decide_eq_true_iff (c ≥ 913) _) (p_iand (@decide_eq_true_iff (c ≤ 937) _) (@bne_iff_ne _ _ _ (c) (930)))) (p_iand (@decide_eq_true_iff (c ≥ 913) _) (p_iand (@decide_eq_true_iff (c ≤ 937) _) (@bne_iff_ne _ _ _ (c) (930)))) (p_iand (@decide_eq_true_iff (c ≥ 1040) _) (@decide_eq_true_iff (c ≤ 1071) _))))) h15
    have J18 : GoS Tryz.prog 84 R 51 [.inRegion (cops (csub (cd Tryz.f84) [1,0,0,1,1,0])) [], iC Tryz.f84 [1,0,0,1,1,1], .inBlock 0, iC Tryz.f84 [1,1]] [(0, .int .i64 c), (38, .bool ((decide (c ≥ 1024)) && (decide (c ≤ 1039))))] w := by
     refine xs ?_
     refine xb 1 ((decide (c ≥ 1024)) && (decide (c ≤ 1039))) (fun h19 => ?_) (fun h19 => ?_)
     ·
      have h19p : c ≥ 1024 := of_decide_eq_true (p_andl h19)
      have h19p1 : c ≤ 1039 := of_decide_eq_true (p_andr h19)
      refine xa 3 c 80 (c + 80) ?_
      exact xr 2 (v := .int .i64 (c + 80)) Tryz.func84 hR ⟨ret_int (by unfold fold UpP; (repeat' split) <;> omega), rfl⟩
     ·
      have h19p : ¬ ((c ≥ 1024) ∧ (c ≤ 1039)) := p_no (p_iand (@decide_eq_true_iff (c ≥ 1024) _) (@decide_eq_true_iff (c ≤ 1039) _)) h19
      refine xc 6 (c = 962) (fun h21p => ?_) (fun h21p => ?_)
      ·
       exact xr 4 (v := .int .i64 963) Tryz.func84 hR ⟨ret_int (by unfold fold UpP; (repeat' split) <;> omega), rfl⟩
      ·
       exact xr 7 (v := .int .i64 c) Tryz.func84 hR ⟨ret_int (by unfold fold UpP; (repeat' split) <;> omega), rfl⟩
    refine xfc 5 41 (c ≥ 1024) (fun h17p => ?_) (fun h17p => ?_)
    ·
     have h17 : (decide (c ≥ 1024)) = true := decide_eq_true h17p
     exact xl 4 (l := [(0, .int .i64 c), (38, .bool (decide (c ≤ 1039)))]) (GoS.cast (by first | (simp only [h17, cond_true, cond_false, Bool.true_and, Bool.false_and, Bool.true_or, Bool.false_or, Bool.not_true, Bool.not_false, Bool.and_true, Bool.and_false, Bool.or_true, Bool.or_false]) | (simp [h17])) J18)
    ·
     have h17 : (decide (c ≥ 1024)) = false := decide_eq_false h17p
     exact xl 4 (l := [(0, .int .i64 c), (38, .bool false)]) (GoS.cast (by first | (simp only [h17, cond_true, cond_false, Bool.true_and, Bool.false_and, Bool.true_or, Bool.false_or, Bool.not_true, Bool.not_false, Bool.and_true, Bool.and_false, Bool.or_true, Bool.or_false]) | (simp [h17])) J18)
  refine xb 1 ((decide (c ≥ 65)) && (decide (c ≤ 90))) (fun h3 => ?_) (fun h3 => ?_)
  ·
   have h3p : c ≥ 65 := of_decide_eq_true (p_andl h3)
   have h3p1 : c ≤ 90 := of_decide_eq_true (p_andr h3)
   exact xl 1 (l := [(0, .int .i64 c), (3, .bool ((decide (c ≥ 65)) && (decide (c ≤ 90))))]) (GoS.cast (by first | (simp only [h3, cond_true, cond_false, Bool.true_and, Bool.false_and, Bool.true_or, Bool.false_or, Bool.not_true, Bool.not_false, Bool.and_true, Bool.and_false, Bool.or_true, Bool.or_false]) | (simp [h3])) J14)
  ·
   have h3p : ¬ ((c ≥ 65) ∧ (c ≤ 90)) := p_no (p_iand (@decide_eq_true_iff (c ≥ 65) _) (@decide_eq_true_iff (c ≤ 90) _)) h3
   have J6 : GoS Tryz.prog 84 R 51 [.inRegion (cops (csub (cd Tryz.f84) [1,0,0,0,1,1,0])) [], iC Tryz.f84 [1,0,0,0,1,1,1], iC Tryz.f84 [1,0,0,1], .inBlock 0, iC Tryz.f84 [1,1]] [(0, .int .i64 c), (3, .bool ((decide (c ≥ 192)) && ((decide (c ≤ 222)) && (c != 215))))] w := by
    refine xs ?_
    refine xb 1 ((decide (c ≥ 192)) && ((decide (c ≤ 222)) && (c != 215))) (fun h7 => ?_) (fun h7 => ?_)
    ·
     have h7p : c ≥ 192 := of_decide_eq_true (p_andl h7)
     have h7p1 : c ≤ 222 := of_decide_eq_true (p_andl (p_andr h7))
     have h7p2 : ¬ (c = 215) := bne_iff_ne.1 (p_andr (p_andr h7))
     exact xl 1 (l := [(0, .int .i64 c), (3, .bool ((decide (c ≥ 192)) && ((decide (c ≤ 222)) && (c != 215))))]) (GoS.cast (by first | (simp only [h3, h7, cond_true, cond_false, Bool.true_and, Bool.false_and, Bool.true_or, Bool.false_or, Bool.not_true, Bool.not_false, Bool.and_true, Bool.and_false, Bool.or_true, Bool.or_false]) | (simp [h3, h7])) J14)
    ·
     have h7p : ¬ ((c ≥ 192) ∧ ((c ≤ 222) ∧ (¬ (c = 215)))) := p_no (p_iand (@decide_eq_true_iff (c ≥ 192) _) (p_iand (@decide_eq_true_iff (c ≤ 222) _) (@bne_iff_ne _ _ _ (c) (215)))) h7
     have J10 : GoS Tryz.prog 84 R 51 [.inRegion (cops (csub (cd Tryz.f84) [1,0,0,0,1,1,1,1,0])) [], iC Tryz.f84 [1,0,0,0,1,1,1,1,1], iC Tryz.f84 [1,0,0,1], .inBlock 0, iC Tryz.f84 [1,1]] [(0, .int .i64 c), (3, .bool ((decide (c ≥ 913)) && ((decide (c ≤ 937)) && (c != 930))))] w := by
      refine xs ?_
      refine xb 1 ((decide (c ≥ 913)) && ((decide (c ≤ 937)) && (c != 930))) (fun h11 => ?_) (fun h11 => ?_)
      ·
       have h11p : c ≥ 913 := of_decide_eq_true (p_andl h11)
       have h11p1 : c ≤ 937 := of_decide_eq_true (p_andl (p_andr h11))
       have h11p2 : ¬ (c = 930) := bne_iff_ne.1 (p_andr (p_andr h11))
       exact xl 1 (l := [(0, .int .i64 c), (3, .bool ((decide (c ≥ 913)) && ((decide (c ≤ 937)) && (c != 930))))]) (GoS.cast (by first | (simp only [h3, h7, h11, cond_true, cond_false, Bool.true_and, Bool.false_and, Bool.true_or, Bool.false_or, Bool.not_true, Bool.not_false, Bool.and_true, Bool.and_false, Bool.or_true, Bool.or_false]) | (simp [h3, h7, h11])) J14)
      ·
       have h11p : ¬ ((c ≥ 913) ∧ ((c ≤ 937) ∧ (¬ (c = 930)))) := p_no (p_iand (@decide_eq_true_iff (c ≥ 913) _) (p_iand (@decide_eq_true_iff (c ≤ 937) _) (@bne_iff_ne _ _ _ (c) (930)))) h11
       have J13 : GoS Tryz.prog 84 R 51 [.inRegion (cops (csub (cd Tryz.f84) [1,0,0,0,1,1,1,1,1,1])) [], iC Tryz.f84 [1,0,0,1], .inBlock 0, iC Tryz.f84 [1,1]] [(0, .int .i64 c), (3, .bool ((decide (c ≥ 1040)) && (decide (c ≤ 1071))))] w := by
        refine xs ?_
        exact xl 1 (l := [(0, .int .i64 c), (3, .bool ((decide (c ≥ 1040)) && (decide (c ≤ 1071))))]) (GoS.cast (by first | (simp only [h3, h7, h11, cond_true, cond_false, Bool.true_and, Bool.false_and, Bool.true_or, Bool.false_or, Bool.not_true, Bool.not_false, Bool.and_true, Bool.and_false, Bool.or_true, Bool.or_false]) | (simp [h3, h7, h11])) J14)
       refine xfc 4 32 (c ≥ 1040) (fun h12p => ?_) (fun h12p => ?_)
       ·
        have h12 : (decide (c ≥ 1040)) = true := decide_eq_true h12p
        exact xl 4 (l := [(0, .int .i64 c), (3, .bool (decide (c ≤ 1071)))]) (GoS.cast (by first | (simp only [h12, cond_true, cond_false, Bool.true_and, Bool.false_and, Bool.true_or, Bool.false_or, Bool.not_true, Bool.not_false, Bool.and_true, Bool.and_false, Bool.or_true, Bool.or_false]) | (simp [h12])) J13)
       ·
        have h12 : (decide (c ≥ 1040)) = false := decide_eq_false h12p
        exact xl 4 (l := [(0, .int .i64 c), (3, .bool false)]) (GoS.cast (by first | (simp only [h12, cond_true, cond_false, Bool.true_and, Bool.false_and, Bool.true_or, Bool.false_or, Bool.not_true, Bool.not_false, Bool.and_true, Bool.and_false, Bool.or_true, Bool.or_false]) | (simp [h12])) J13)
     refine xfc 5 22 (c ≥ 913) (fun h8p => ?_) (fun h8p => ?_)
     ·
      have h8 : (decide (c ≥ 913)) = true := decide_eq_true h8p
      refine xfc 4 26 (c ≤ 937) (fun h9p => ?_) (fun h9p => ?_)
      ·
       have h9 : (decide (c ≤ 937)) = true := decide_eq_true h9p
       exact xl 4 (l := [(0, .int .i64 c), (3, .bool (c != 930))]) (GoS.cast (by first | (simp only [h8, h9, cond_true, cond_false, Bool.true_and, Bool.false_and, Bool.true_or, Bool.false_or, Bool.not_true, Bool.not_false, Bool.and_true, Bool.and_false, Bool.or_true, Bool.or_false]) | (simp [h8, h9])) J10)
      ·
       have h9 : (decide (c ≤ 937)) = false := decide_eq_false h9p
       exact xl 4 (l := [(0, .int .i64 c), (3, .bool false)]) (GoS.cast (by first | (simp only [h8, h9, cond_true, cond_false, Bool.true_and, Bool.false_and, Bool.true_or, Bool.false_or, Bool.not_true, Bool.not_false, Bool.and_true, Bool.and_false, Bool.or_true, Bool.or_false]) | (simp [h8, h9])) J10)
     ·
      have h8 : (decide (c ≥ 913)) = false := decide_eq_false h8p
      exact xl 8 (l := [(0, .int .i64 c), (3, .bool false)]) (GoS.cast (by first | (simp only [h8, cond_true, cond_false, Bool.true_and, Bool.false_and, Bool.true_or, Bool.false_or, Bool.not_true, Bool.not_false, Bool.and_true, Bool.and_false, Bool.or_true, Bool.or_false]) | (simp [h8])) J10)
   refine xfc 5 12 (c ≥ 192) (fun h4p => ?_) (fun h4p => ?_)
   ·
    have h4 : (decide (c ≥ 192)) = true := decide_eq_true h4p
    refine xfc 4 16 (c ≤ 222) (fun h5p => ?_) (fun h5p => ?_)
    ·
     have h5 : (decide (c ≤ 222)) = true := decide_eq_true h5p
     exact xl 4 (l := [(0, .int .i64 c), (3, .bool (c != 215))]) (GoS.cast (by first | (simp only [h4, h5, cond_true, cond_false, Bool.true_and, Bool.false_and, Bool.true_or, Bool.false_or, Bool.not_true, Bool.not_false, Bool.and_true, Bool.and_false, Bool.or_true, Bool.or_false]) | (simp [h4, h5])) J6)
    ·
     have h5 : (decide (c ≤ 222)) = false := decide_eq_false h5p
     exact xl 4 (l := [(0, .int .i64 c), (3, .bool false)]) (GoS.cast (by first | (simp only [h4, h5, cond_true, cond_false, Bool.true_and, Bool.false_and, Bool.true_or, Bool.false_or, Bool.not_true, Bool.not_false, Bool.and_true, Bool.and_false, Bool.or_true, Bool.or_false]) | (simp [h4, h5])) J6)
   ·
    have h4 : (decide (c ≥ 192)) = false := decide_eq_false h4p
    exact xl 8 (l := [(0, .int .i64 c), (3, .bool false)]) (GoS.cast (by first | (simp only [h4, cond_true, cond_false, Bool.true_and, Bool.false_and, Bool.true_or, Bool.false_or, Bool.not_true, Bool.not_false, Bool.and_true, Bool.and_false, Bool.or_true, Bool.or_false]) | (simp [h4])) J6)
 refine xfc 12 6 (c ≥ 65) (fun h1p => ?_) (fun h1p => ?_)
 ·
  have h1 : (decide (c ≥ 65)) = true := decide_eq_true h1p
  exact xl 4 (l := [(0, .int .i64 c), (3, .bool (decide (c ≤ 90)))]) (GoS.cast (by first | (simp only [h1, cond_true, cond_false, Bool.true_and, Bool.false_and, Bool.true_or, Bool.false_or, Bool.not_true, Bool.not_false, Bool.and_true, Bool.and_false, Bool.or_true, Bool.or_false]) | (simp [h1])) J2)
 ·
  have h1 : (decide (c ≥ 65)) = false := decide_eq_false h1p
  exact xl 4 (l := [(0, .int .i64 c), (3, .bool false)]) (GoS.cast (by first | (simp only [h1, cond_true, cond_false, Bool.true_and, Bool.false_and, Bool.true_or, Bool.false_or, Bool.not_true, Bool.not_false, Bool.and_true, Bool.and_false, Bool.or_true, Bool.or_false]) | (simp [h1])) J2)

set_option maxHeartbeats 400000 in
theorem rwhole_c (c : Int) (w : World) :
  Calls Tryz.prog 126 #[.int .i64 c] w (fun e w' => e = .returned (.bool (whole c)) ∧ w = w') := by
 refine xe 17 Tryz.func126 (fun R hR => ?_)
 refine xfc 9 5 (c ≥ 0) (fun h1p => ?_) (fun h1p => ?_)
 ·
  refine xfc 4 9 (c < 55296) (fun h2p => ?_) (fun h2p => ?_)
  ·
   exact xr 9 (v := .bool true) Tryz.func126 hR ⟨ret_bool (by rw [Bool.eq_iff_iff]; simp [whole]; try omega), rfl⟩
  ·
   refine xfc 3 12 (c > 57343) (fun h3p => ?_) (fun h3p => ?_)
   ·
    exact xr 6 (v := .bool (decide (c < 1114112))) Tryz.func126 hR ⟨ret_bool (by rw [Bool.eq_iff_iff]; simp [whole]; try omega), rfl⟩
   ·
    exact xr 6 (v := .bool false) Tryz.func126 hR ⟨ret_bool (by rw [Bool.eq_iff_iff]; simp [whole]; try omega), rfl⟩
 ·
  refine xfc 7 12 (c > 57343) (fun h4p => ?_) (fun h4p => ?_)
  ·
   exact xr 6 (v := .bool (decide (c < 1114112))) Tryz.func126 hR ⟨ret_bool (by rw [Bool.eq_iff_iff]; simp [whole]; try omega), rfl⟩
  ·
   exact xr 6 (v := .bool false) Tryz.func126 hR ⟨ret_bool (by rw [Bool.eq_iff_iff]; simp [whole]; try omega), rfl⟩


end Go.Proofs.YthpodbngljfdmaaGreatDoor

namespace Go.Proofs.YthpodbngljfdmaaGreatDoor
open Go Go.Gw Go.UtfP Go.TokP Go.RowKit
set_option linter.unusedVariables false
set_option linter.unusedSimpArgs false
set_option maxRecDepth 20000


set_option maxHeartbeats 400000 in
theorem first_c (s : List UInt8) (hs : 0 < s.length) (w : World) :
  Calls Tryz.prog 109 #[sS s] w (fun e w' => e = .returned (.tuple #[.int .i64 (firstP s).1, .int .i64 (firstP s).2]) ∧ w = w') := by
 refine xe 64 Tryz.func109 (fun R hR => ?_)
 have hb1 := bl_bd s 0
 refine xi 8 s 0 0 ?_
 refine xcv 0 .u8 .i64 (bl s 0) (bl s 0) (IntWalk.i64_in _ (by omega)) ?_
 refine xc 14 ((bl s 0) < 128) (fun h4p => ?_) (fun h4p => ?_)
 ·
  have e : firstP s = ((bl s 0), 1) := by
   unfold firstP
   rw [if_pos h4p]
  exact xr 6 (v := .tuple #[.int .i64 (bl s 0), .int .i64 1]) Tryz.func109 hR ⟨ret_int2 (by rw [e]) (by rw [e]), rfl⟩
 ·
  refine xc 6 ((bl s 0) < 192) (fun h5p => ?_) (fun h5p => ?_)
  ·
   have e : firstP s = (0, 0) := by
    unfold firstP
    rw [if_neg h4p]
    rw [if_pos h5p]
   exact xr 5 (v := .tuple #[.int .i64 0, .int .i64 0]) Tryz.func109 hR ⟨ret_int2 (by rw [e]) (by rw [e]), rfl⟩
  ·
   refine xc 6 ((bl s 0) < 224) (fun h6p => ?_) (fun h6p => ?_)
   ·
    refine xo 2 .and (.int .i64 (bl s 0)) (.int .i64 31) (v := .int .i64 ((bl s 0) % 32)) (fun _ => f_and (and_i64 _ 5 31 (by decide) (by decide))) ?_
    refine xn 10 s ?_
    refine xc 2 (2 > ((s.length : Nat) : Int)) (fun h13p => ?_) (fun h13p => ?_)
    ·
     have e : firstP s = (0, 0) := by
      unfold firstP
      rw [if_neg h4p]
      rw [if_neg h5p]
      rw [if_pos h6p]
      rw [if_pos (by first | exact Or.inl (by omega) | exact Or.inr (Or.inl (by omega)) | exact Or.inr (Or.inr (Or.inl (by omega))) | exact Or.inr (Or.inr (Or.inr (Or.inl (by omega)))) | exact Or.inr (Or.inr (Or.inr (Or.inr (Or.inl (by omega))))) | exact Or.inr (Or.inr (Or.inr (Or.inr (Or.inr (Or.inl (by omega)))))) | (simp_all; done))]
     exact xr 5 (v := .tuple #[.int .i64 0, .int .i64 0]) Tryz.func109 hR ⟨ret_int2 (by rw [e]) (by rw [e]), rfl⟩
    ·
     have hb14 := bl_bd s 1
     refine xi 24 s 1 1 ?_
     refine xo 0 .and (.int .u8 (bl s 1)) (.int .u8 192) (v := .int .u8 ((bl s 1) / 64 * 64)) (fun _ => f_and (and_c0 _ (by omega) (by omega))) ?_
     refine xcn 2 (((bl s 1) / 64 * 64) = 128) (fun h17p => ?_) (fun h17p => ?_)
     ·
      have e : firstP s = (0, 0) := by
       unfold firstP
       rw [if_neg h4p]
       rw [if_neg h5p]
       rw [if_pos h6p]
       rw [if_pos (by first | exact Or.inl (by omega) | exact Or.inr (Or.inl (by omega)) | exact Or.inr (Or.inr (Or.inl (by omega))) | exact Or.inr (Or.inr (Or.inr (Or.inl (by omega)))) | exact Or.inr (Or.inr (Or.inr (Or.inr (Or.inl (by omega))))) | exact Or.inr (Or.inr (Or.inr (Or.inr (Or.inr (Or.inl (by omega)))))) | (simp_all; done))]
      exact xr 5 (v := .tuple #[.int .i64 0, .int .i64 0]) Tryz.func109 hR ⟨ret_int2 (by rw [e]) (by rw [e]), rfl⟩
     ·
      refine xo 3 .shl (.int .i64 ((bl s 0) % 32)) (.int .u64 6) (v := .int .i64 (((bl s 0) % 32) * 64)) (fun _ => f_shl (by decide) (by rw [show min (Int.toNat 6) _ = 6 by decide, show (2 : Int) ^ 6 = 64 by decide]; exact IntWalk.i64_in _ (by omega))) ?_
      have hb18 := bl_bd s 1
      refine xi 2 s 1 1 ?_
      refine xo 0 .and (.int .u8 (bl s 1)) (.int .u8 63) (v := .int .u8 ((bl s 1) % 64)) (fun _ => f_and (and_u8 _ 6 63 (by decide) (by decide))) ?_
      refine xcv 0 .u8 .i64 ((bl s 1) % 64) ((bl s 1) % 64) (IntWalk.i64_in _ (by omega)) ?_
      refine xo 0 .or (.int .i64 (((bl s 0) % 32) * 64)) (.int .i64 ((bl s 1) % 64)) (v := .int .i64 ((((bl s 0) % 32) * 64) + ((bl s 1) % 64))) (fun _ => f_or (or_i64 6 64 (by decide) (by omega) (by omega) (by omega) (by omega) (by omega))) ?_
      refine xfc 25 57 (((((bl s 0) % 32) * 64) + ((bl s 1) % 64)) < 128) (fun h24p => ?_) (fun h24p => ?_)
      ·
       have e : firstP s = (0, 0) := by
        unfold firstP
        rw [if_neg h4p]
        rw [if_neg h5p]
        rw [if_pos h6p]
        rw [if_pos (by first | exact Or.inl (by omega) | exact Or.inr (Or.inl (by omega)) | exact Or.inr (Or.inr (Or.inl (by omega))) | exact Or.inr (Or.inr (Or.inr (Or.inl (by omega)))) | exact Or.inr (Or.inr (Or.inr (Or.inr (Or.inl (by omega))))) | exact Or.inr (Or.inr (Or.inr (Or.inr (Or.inr (Or.inl (by omega)))))) | (simp_all; done))]
       exact xr 11 (v := .tuple #[.int .i64 0, .int .i64 0]) Tryz.func109 hR ⟨ret_int2 (by rw [e]) (by rw [e]), rfl⟩
      ·
       refine xka 1 (whole_c ((((bl s 0) % 32) * 64) + ((bl s 1) % 64)) w) ?_
       refine xb 3 (!(whole ((((bl s 0) % 32) * 64) + ((bl s 1) % 64)))) (fun h25 => ?_) (fun h25 => ?_)
       ·
        have e : firstP s = (0, 0) := by
         unfold firstP
         rw [if_neg h4p]
         rw [if_neg h5p]
         rw [if_pos h6p]
         rw [if_pos (by first | exact Or.inl (by omega) | exact Or.inr (Or.inl (by omega)) | exact Or.inr (Or.inr (Or.inl (by omega))) | exact Or.inr (Or.inr (Or.inr (Or.inl (by omega)))) | exact Or.inr (Or.inr (Or.inr (Or.inr (Or.inl (by omega))))) | exact Or.inr (Or.inr (Or.inr (Or.inr (Or.inr (Or.inl (by omega)))))) | (simp_all; done))]
        exact xr 5 (v := .tuple #[.int .i64 0, .int .i64 0]) Tryz.func109 hR ⟨ret_int2 (by rw [e]) (by rw [e]), rfl⟩
       ·
        have h25p : 0 ≤ ((((bl s 0) % 32) * 64) + ((bl s 1) % 64)) ∧ ((((bl s 0) % 32) * 64) + ((bl s 1) % 64)) ≤ 1114111 ∧ (((((bl s 0) % 32) * 64) + ((bl s 1) % 64)) < 55296 ∨ ((((bl s 0) % 32) * 64) + ((bl s 1) % 64)) > 57343) := whole_iff.1 (p_nt h25)
        have e : firstP s = (((((bl s 0) % 32) * 64) + ((bl s 1) % 64)), 2) := by
         unfold firstP
         rw [if_neg h4p]
         rw [if_neg h5p]
         rw [if_pos h6p]
         rw [if_neg (by rintro (h | h | h | h) <;> first | omega | (simp_all; done))]
        exact xr 8 (v := .tuple #[.int .i64 ((((bl s 0) % 32) * 64) + ((bl s 1) % 64)), .int .i64 2]) Tryz.func109 hR ⟨ret_int2 (by rw [e]) (by rw [e]), rfl⟩
   ·
    refine xc 6 ((bl s 0) < 240) (fun h8p => ?_) (fun h8p => ?_)
    ·
     refine xo 2 .and (.int .i64 (bl s 0)) (.int .i64 15) (v := .int .i64 ((bl s 0) % 16)) (fun _ => f_and (and_i64 _ 4 15 (by decide) (by decide))) ?_
     refine xn 10 s ?_
     refine xc 2 (3 > ((s.length : Nat) : Int)) (fun h27p => ?_) (fun h27p => ?_)
     ·
      have e : firstP s = (0, 0) := by
       unfold firstP
       rw [if_neg h4p]
       rw [if_neg h5p]
       rw [if_neg h6p]
       rw [if_pos h8p]
       rw [if_pos (by first | exact Or.inl (by omega) | exact Or.inr (Or.inl (by omega)) | exact Or.inr (Or.inr (Or.inl (by omega))) | exact Or.inr (Or.inr (Or.inr (Or.inl (by omega)))) | exact Or.inr (Or.inr (Or.inr (Or.inr (Or.inl (by omega))))) | exact Or.inr (Or.inr (Or.inr (Or.inr (Or.inr (Or.inl (by omega)))))) | (simp_all; done))]
      exact xr 5 (v := .tuple #[.int .i64 0, .int .i64 0]) Tryz.func109 hR ⟨ret_int2 (by rw [e]) (by rw [e]), rfl⟩
     ·
      have hb28 := bl_bd s 1
      refine xi 24 s 1 1 ?_
      refine xo 0 .and (.int .u8 (bl s 1)) (.int .u8 192) (v := .int .u8 ((bl s 1) / 64 * 64)) (fun _ => f_and (and_c0 _ (by omega) (by omega))) ?_
      refine xcn 2 (((bl s 1) / 64 * 64) = 128) (fun h31p => ?_) (fun h31p => ?_)
      ·
       have e : firstP s = (0, 0) := by
        unfold firstP
        rw [if_neg h4p]
        rw [if_neg h5p]
        rw [if_neg h6p]
        rw [if_pos h8p]
        rw [if_pos (by first | exact Or.inl (by omega) | exact Or.inr (Or.inl (by omega)) | exact Or.inr (Or.inr (Or.inl (by omega))) | exact Or.inr (Or.inr (Or.inr (Or.inl (by omega)))) | exact Or.inr (Or.inr (Or.inr (Or.inr (Or.inl (by omega))))) | exact Or.inr (Or.inr (Or.inr (Or.inr (Or.inr (Or.inl (by omega)))))) | (simp_all; done))]
       exact xr 5 (v := .tuple #[.int .i64 0, .int .i64 0]) Tryz.func109 hR ⟨ret_int2 (by rw [e]) (by rw [e]), rfl⟩
      ·
       refine xo 3 .shl (.int .i64 ((bl s 0) % 16)) (.int .u64 6) (v := .int .i64 (((bl s 0) % 16) * 64)) (fun _ => f_shl (by decide) (by rw [show min (Int.toNat 6) _ = 6 by decide, show (2 : Int) ^ 6 = 64 by decide]; exact IntWalk.i64_in _ (by omega))) ?_
       have hb32 := bl_bd s 1
       refine xi 2 s 1 1 ?_
       refine xo 0 .and (.int .u8 (bl s 1)) (.int .u8 63) (v := .int .u8 ((bl s 1) % 64)) (fun _ => f_and (and_u8 _ 6 63 (by decide) (by decide))) ?_
       refine xcv 0 .u8 .i64 ((bl s 1) % 64) ((bl s 1) % 64) (IntWalk.i64_in _ (by omega)) ?_
       refine xo 0 .or (.int .i64 (((bl s 0) % 16) * 64)) (.int .i64 ((bl s 1) % 64)) (v := .int .i64 ((((bl s 0) % 16) * 64) + ((bl s 1) % 64))) (fun _ => f_or (or_i64 6 64 (by decide) (by omega) (by omega) (by omega) (by omega) (by omega))) ?_
       have hb33 := bl_bd s 2
       refine xi 25 s 2 2 ?_
       refine xo 0 .and (.int .u8 (bl s 2)) (.int .u8 192) (v := .int .u8 ((bl s 2) / 64 * 64)) (fun _ => f_and (and_c0 _ (by omega) (by omega))) ?_
       refine xcn 2 (((bl s 2) / 64 * 64) = 128) (fun h41p => ?_) (fun h41p => ?_)
       ·
        have e : firstP s = (0, 0) := by
         unfold firstP
         rw [if_neg h4p]
         rw [if_neg h5p]
         rw [if_neg h6p]
         rw [if_pos h8p]
         rw [if_pos (by first | exact Or.inl (by omega) | exact Or.inr (Or.inl (by omega)) | exact Or.inr (Or.inr (Or.inl (by omega))) | exact Or.inr (Or.inr (Or.inr (Or.inl (by omega)))) | exact Or.inr (Or.inr (Or.inr (Or.inr (Or.inl (by omega))))) | exact Or.inr (Or.inr (Or.inr (Or.inr (Or.inr (Or.inl (by omega)))))) | (simp_all; done))]
        exact xr 5 (v := .tuple #[.int .i64 0, .int .i64 0]) Tryz.func109 hR ⟨ret_int2 (by rw [e]) (by rw [e]), rfl⟩
       ·
        refine xo 3 .shl (.int .i64 ((((bl s 0) % 16) * 64) + ((bl s 1) % 64))) (.int .u64 6) (v := .int .i64 (((((bl s 0) % 16) * 64) + ((bl s 1) % 64)) * 64)) (fun _ => f_shl (by decide) (by rw [show min (Int.toNat 6) _ = 6 by decide, show (2 : Int) ^ 6 = 64 by decide]; exact IntWalk.i64_in _ (by omega))) ?_
        have hb42 := bl_bd s 2
        refine xi 2 s 2 2 ?_
        refine xo 0 .and (.int .u8 (bl s 2)) (.int .u8 63) (v := .int .u8 ((bl s 2) % 64)) (fun _ => f_and (and_u8 _ 6 63 (by decide) (by decide))) ?_
        refine xcv 0 .u8 .i64 ((bl s 2) % 64) ((bl s 2) % 64) (IntWalk.i64_in _ (by omega)) ?_
        refine xo 0 .or (.int .i64 (((((bl s 0) % 16) * 64) + ((bl s 1) % 64)) * 64)) (.int .i64 ((bl s 2) % 64)) (v := .int .i64 ((((((bl s 0) % 16) * 64) + ((bl s 1) % 64)) * 64) + ((bl s 2) % 64))) (fun _ => f_or (or_i64 6 64 (by decide) (by omega) (by omega) (by omega) (by omega) (by omega))) ?_
        refine xfc 25 57 (((((((bl s 0) % 16) * 64) + ((bl s 1) % 64)) * 64) + ((bl s 2) % 64)) < 2048) (fun h48p => ?_) (fun h48p => ?_)
        ·
         have e : firstP s = (0, 0) := by
          unfold firstP
          rw [if_neg h4p]
          rw [if_neg h5p]
          rw [if_neg h6p]
          rw [if_pos h8p]
          rw [if_pos (by first | exact Or.inl (by omega) | exact Or.inr (Or.inl (by omega)) | exact Or.inr (Or.inr (Or.inl (by omega))) | exact Or.inr (Or.inr (Or.inr (Or.inl (by omega)))) | exact Or.inr (Or.inr (Or.inr (Or.inr (Or.inl (by omega))))) | exact Or.inr (Or.inr (Or.inr (Or.inr (Or.inr (Or.inl (by omega)))))) | (simp_all; done))]
         exact xr 11 (v := .tuple #[.int .i64 0, .int .i64 0]) Tryz.func109 hR ⟨ret_int2 (by rw [e]) (by rw [e]), rfl⟩
        ·
         refine xka 1 (whole_c ((((((bl s 0) % 16) * 64) + ((bl s 1) % 64)) * 64) + ((bl s 2) % 64)) w) ?_
         refine xb 3 (!(whole ((((((bl s 0) % 16) * 64) + ((bl s 1) % 64)) * 64) + ((bl s 2) % 64)))) (fun h49 => ?_) (fun h49 => ?_)
         ·
          have e : firstP s = (0, 0) := by
           unfold firstP
           rw [if_neg h4p]
           rw [if_neg h5p]
           rw [if_neg h6p]
           rw [if_pos h8p]
           rw [if_pos (by first | exact Or.inl (by omega) | exact Or.inr (Or.inl (by omega)) | exact Or.inr (Or.inr (Or.inl (by omega))) | exact Or.inr (Or.inr (Or.inr (Or.inl (by omega)))) | exact Or.inr (Or.inr (Or.inr (Or.inr (Or.inl (by omega))))) | exact Or.inr (Or.inr (Or.inr (Or.inr (Or.inr (Or.inl (by omega)))))) | (simp_all; done))]
          exact xr 5 (v := .tuple #[.int .i64 0, .int .i64 0]) Tryz.func109 hR ⟨ret_int2 (by rw [e]) (by rw [e]), rfl⟩
         ·
          have h49p : 0 ≤ ((((((bl s 0) % 16) * 64) + ((bl s 1) % 64)) * 64) + ((bl s 2) % 64)) ∧ ((((((bl s 0) % 16) * 64) + ((bl s 1) % 64)) * 64) + ((bl s 2) % 64)) ≤ 1114111 ∧ (((((((bl s 0) % 16) * 64) + ((bl s 1) % 64)) * 64) + ((bl s 2) % 64)) < 55296 ∨ ((((((bl s 0) % 16) * 64) + ((bl s 1) % 64)) * 64) + ((bl s 2) % 64)) > 57343) := whole_iff.1 (p_nt h49)
          have e : firstP s = (((((((bl s 0) % 16) * 64) + ((bl s 1) % 64)) * 64) + ((bl s 2) % 64)), 3) := by
           unfold firstP
           rw [if_neg h4p]
           rw [if_neg h5p]
           rw [if_neg h6p]
           rw [if_pos h8p]
           rw [if_neg (by rintro (h | h | h | h | h) <;> first | omega | (simp_all; done))]
          exact xr 8 (v := .tuple #[.int .i64 ((((((bl s 0) % 16) * 64) + ((bl s 1) % 64)) * 64) + ((bl s 2) % 64)), .int .i64 3]) Tryz.func109 hR ⟨ret_int2 (by rw [e]) (by rw [e]), rfl⟩
    ·
     refine xc 6 ((bl s 0) < 248) (fun h10p => ?_) (fun h10p => ?_)
     ·
      refine xo 2 .and (.int .i64 (bl s 0)) (.int .i64 7) (v := .int .i64 ((bl s 0) % 8)) (fun _ => f_and (and_i64 _ 3 7 (by decide) (by decide))) ?_
      refine xn 10 s ?_
      refine xc 2 (4 > ((s.length : Nat) : Int)) (fun h51p => ?_) (fun h51p => ?_)
      ·
       have e : firstP s = (0, 0) := by
        unfold firstP
        rw [if_neg h4p]
        rw [if_neg h5p]
        rw [if_neg h6p]
        rw [if_neg h8p]
        rw [if_pos h10p]
        rw [if_pos (by first | exact Or.inl (by omega) | exact Or.inr (Or.inl (by omega)) | exact Or.inr (Or.inr (Or.inl (by omega))) | exact Or.inr (Or.inr (Or.inr (Or.inl (by omega)))) | exact Or.inr (Or.inr (Or.inr (Or.inr (Or.inl (by omega))))) | exact Or.inr (Or.inr (Or.inr (Or.inr (Or.inr (Or.inl (by omega)))))) | (simp_all; done))]
       exact xr 5 (v := .tuple #[.int .i64 0, .int .i64 0]) Tryz.func109 hR ⟨ret_int2 (by rw [e]) (by rw [e]), rfl⟩
      ·
       have hb52 := bl_bd s 1
       refine xi 24 s 1 1 ?_
       refine xo 0 .and (.int .u8 (bl s 1)) (.int .u8 192) (v := .int .u8 ((bl s 1) / 64 * 64)) (fun _ => f_and (and_c0 _ (by omega) (by omega))) ?_
       refine xcn 2 (((bl s 1) / 64 * 64) = 128) (fun h55p => ?_) (fun h55p => ?_)
       ·
        have e : firstP s = (0, 0) := by
         unfold firstP
         rw [if_neg h4p]
         rw [if_neg h5p]
         rw [if_neg h6p]
         rw [if_neg h8p]
         rw [if_pos h10p]
         rw [if_pos (by first | exact Or.inl (by omega) | exact Or.inr (Or.inl (by omega)) | exact Or.inr (Or.inr (Or.inl (by omega))) | exact Or.inr (Or.inr (Or.inr (Or.inl (by omega)))) | exact Or.inr (Or.inr (Or.inr (Or.inr (Or.inl (by omega))))) | exact Or.inr (Or.inr (Or.inr (Or.inr (Or.inr (Or.inl (by omega)))))) | (simp_all; done))]
        exact xr 5 (v := .tuple #[.int .i64 0, .int .i64 0]) Tryz.func109 hR ⟨ret_int2 (by rw [e]) (by rw [e]), rfl⟩
       ·
        refine xo 3 .shl (.int .i64 ((bl s 0) % 8)) (.int .u64 6) (v := .int .i64 (((bl s 0) % 8) * 64)) (fun _ => f_shl (by decide) (by rw [show min (Int.toNat 6) _ = 6 by decide, show (2 : Int) ^ 6 = 64 by decide]; exact IntWalk.i64_in _ (by omega))) ?_
        have hb56 := bl_bd s 1
        refine xi 2 s 1 1 ?_
        refine xo 0 .and (.int .u8 (bl s 1)) (.int .u8 63) (v := .int .u8 ((bl s 1) % 64)) (fun _ => f_and (and_u8 _ 6 63 (by decide) (by decide))) ?_
        refine xcv 0 .u8 .i64 ((bl s 1) % 64) ((bl s 1) % 64) (IntWalk.i64_in _ (by omega)) ?_
        refine xo 0 .or (.int .i64 (((bl s 0) % 8) * 64)) (.int .i64 ((bl s 1) % 64)) (v := .int .i64 ((((bl s 0) % 8) * 64) + ((bl s 1) % 64))) (fun _ => f_or (or_i64 6 64 (by decide) (by omega) (by omega) (by omega) (by omega) (by omega))) ?_
        have hb57 := bl_bd s 2
        refine xi 25 s 2 2 ?_
        refine xo 0 .and (.int .u8 (bl s 2)) (.int .u8 192) (v := .int .u8 ((bl s 2) / 64 * 64)) (fun _ => f_and (and_c0 _ (by omega) (by omega))) ?_
        refine xcn 2 (((bl s 2) / 64 * 64) = 128) (fun h65p => ?_) (fun h65p => ?_)
        ·
         have e : firstP s = (0, 0) := by
          unfold firstP
          rw [if_neg h4p]
          rw [if_neg h5p]
          rw [if_neg h6p]
          rw [if_neg h8p]
          rw [if_pos h10p]
          rw [if_pos (by first | exact Or.inl (by omega) | exact Or.inr (Or.inl (by omega)) | exact Or.inr (Or.inr (Or.inl (by omega))) | exact Or.inr (Or.inr (Or.inr (Or.inl (by omega)))) | exact Or.inr (Or.inr (Or.inr (Or.inr (Or.inl (by omega))))) | exact Or.inr (Or.inr (Or.inr (Or.inr (Or.inr (Or.inl (by omega)))))) | (simp_all; done))]
         exact xr 5 (v := .tuple #[.int .i64 0, .int .i64 0]) Tryz.func109 hR ⟨ret_int2 (by rw [e]) (by rw [e]), rfl⟩
        ·
         refine xo 3 .shl (.int .i64 ((((bl s 0) % 8) * 64) + ((bl s 1) % 64))) (.int .u64 6) (v := .int .i64 (((((bl s 0) % 8) * 64) + ((bl s 1) % 64)) * 64)) (fun _ => f_shl (by decide) (by rw [show min (Int.toNat 6) _ = 6 by decide, show (2 : Int) ^ 6 = 64 by decide]; exact IntWalk.i64_in _ (by omega))) ?_
         have hb66 := bl_bd s 2
         refine xi 2 s 2 2 ?_
         refine xo 0 .and (.int .u8 (bl s 2)) (.int .u8 63) (v := .int .u8 ((bl s 2) % 64)) (fun _ => f_and (and_u8 _ 6 63 (by decide) (by decide))) ?_
         refine xcv 0 .u8 .i64 ((bl s 2) % 64) ((bl s 2) % 64) (IntWalk.i64_in _ (by omega)) ?_
         refine xo 0 .or (.int .i64 (((((bl s 0) % 8) * 64) + ((bl s 1) % 64)) * 64)) (.int .i64 ((bl s 2) % 64)) (v := .int .i64 ((((((bl s 0) % 8) * 64) + ((bl s 1) % 64)) * 64) + ((bl s 2) % 64))) (fun _ => f_or (or_i64 6 64 (by decide) (by omega) (by omega) (by omega) (by omega) (by omega))) ?_
         have hb67 := bl_bd s 3
         refine xi 25 s 3 3 ?_
         refine xo 0 .and (.int .u8 (bl s 3)) (.int .u8 192) (v := .int .u8 ((bl s 3) / 64 * 64)) (fun _ => f_and (and_c0 _ (by omega) (by omega))) ?_
         refine xcn 2 (((bl s 3) / 64 * 64) = 128) (fun h75p => ?_) (fun h75p => ?_)
         ·
          have e : firstP s = (0, 0) := by
           unfold firstP
           rw [if_neg h4p]
           rw [if_neg h5p]
           rw [if_neg h6p]
           rw [if_neg h8p]
           rw [if_pos h10p]
           rw [if_pos (by first | exact Or.inl (by omega) | exact Or.inr (Or.inl (by omega)) | exact Or.inr (Or.inr (Or.inl (by omega))) | exact Or.inr (Or.inr (Or.inr (Or.inl (by omega)))) | exact Or.inr (Or.inr (Or.inr (Or.inr (Or.inl (by omega))))) | exact Or.inr (Or.inr (Or.inr (Or.inr (Or.inr (Or.inl (by omega)))))) | (simp_all; done))]
          exact xr 5 (v := .tuple #[.int .i64 0, .int .i64 0]) Tryz.func109 hR ⟨ret_int2 (by rw [e]) (by rw [e]), rfl⟩
         ·
          refine xo 3 .shl (.int .i64 ((((((bl s 0) % 8) * 64) + ((bl s 1) % 64)) * 64) + ((bl s 2) % 64))) (.int .u64 6) (v := .int .i64 (((((((bl s 0) % 8) * 64) + ((bl s 1) % 64)) * 64) + ((bl s 2) % 64)) * 64)) (fun _ => f_shl (by decide) (by rw [show min (Int.toNat 6) _ = 6 by decide, show (2 : Int) ^ 6 = 64 by decide]; exact IntWalk.i64_in _ (by omega))) ?_
          have hb76 := bl_bd s 3
          refine xi 2 s 3 3 ?_
          refine xo 0 .and (.int .u8 (bl s 3)) (.int .u8 63) (v := .int .u8 ((bl s 3) % 64)) (fun _ => f_and (and_u8 _ 6 63 (by decide) (by decide))) ?_
          refine xcv 0 .u8 .i64 ((bl s 3) % 64) ((bl s 3) % 64) (IntWalk.i64_in _ (by omega)) ?_
          refine xo 0 .or (.int .i64 (((((((bl s 0) % 8) * 64) + ((bl s 1) % 64)) * 64) + ((bl s 2) % 64)) * 64)) (.int .i64 ((bl s 3) % 64)) (v := .int .i64 ((((((((bl s 0) % 8) * 64) + ((bl s 1) % 64)) * 64) + ((bl s 2) % 64)) * 64) + ((bl s 3) % 64))) (fun _ => f_or (or_i64 6 64 (by decide) (by omega) (by omega) (by omega) (by omega) (by omega))) ?_
          refine xfc 25 57 (((((((((bl s 0) % 8) * 64) + ((bl s 1) % 64)) * 64) + ((bl s 2) % 64)) * 64) + ((bl s 3) % 64)) < 65536) (fun h82p => ?_) (fun h82p => ?_)
          ·
           have e : firstP s = (0, 0) := by
            unfold firstP
            rw [if_neg h4p]
            rw [if_neg h5p]
            rw [if_neg h6p]
            rw [if_neg h8p]
            rw [if_pos h10p]
            rw [if_pos (by first | exact Or.inl (by omega) | exact Or.inr (Or.inl (by omega)) | exact Or.inr (Or.inr (Or.inl (by omega))) | exact Or.inr (Or.inr (Or.inr (Or.inl (by omega)))) | exact Or.inr (Or.inr (Or.inr (Or.inr (Or.inl (by omega))))) | exact Or.inr (Or.inr (Or.inr (Or.inr (Or.inr (Or.inl (by omega)))))) | (simp_all; done))]
           exact xr 11 (v := .tuple #[.int .i64 0, .int .i64 0]) Tryz.func109 hR ⟨ret_int2 (by rw [e]) (by rw [e]), rfl⟩
          ·
           refine xka 1 (whole_c ((((((((bl s 0) % 8) * 64) + ((bl s 1) % 64)) * 64) + ((bl s 2) % 64)) * 64) + ((bl s 3) % 64)) w) ?_
           refine xb 3 (!(whole ((((((((bl s 0) % 8) * 64) + ((bl s 1) % 64)) * 64) + ((bl s 2) % 64)) * 64) + ((bl s 3) % 64)))) (fun h83 => ?_) (fun h83 => ?_)
           ·
            have e : firstP s = (0, 0) := by
             unfold firstP
             rw [if_neg h4p]
             rw [if_neg h5p]
             rw [if_neg h6p]
             rw [if_neg h8p]
             rw [if_pos h10p]
             rw [if_pos (by first | exact Or.inl (by omega) | exact Or.inr (Or.inl (by omega)) | exact Or.inr (Or.inr (Or.inl (by omega))) | exact Or.inr (Or.inr (Or.inr (Or.inl (by omega)))) | exact Or.inr (Or.inr (Or.inr (Or.inr (Or.inl (by omega))))) | exact Or.inr (Or.inr (Or.inr (Or.inr (Or.inr (Or.inl (by omega)))))) | (simp_all; done))]
            exact xr 5 (v := .tuple #[.int .i64 0, .int .i64 0]) Tryz.func109 hR ⟨ret_int2 (by rw [e]) (by rw [e]), rfl⟩
           ·
            have h83p : 0 ≤ ((((((((bl s 0) % 8) * 64) + ((bl s 1) % 64)) * 64) + ((bl s 2) % 64)) * 64) + ((bl s 3) % 64)) ∧ ((((((((bl s 0) % 8) * 64) + ((bl s 1) % 64)) * 64) + ((bl s 2) % 64)) * 64) + ((bl s 3) % 64)) ≤ 1114111 ∧ (((((((((bl s 0) % 8) * 64) + ((bl s 1) % 64)) * 64) + ((bl s 2) % 64)) * 64) + ((bl s 3) % 64)) < 55296 ∨ ((((((((bl s 0) % 8) * 64) + ((bl s 1) % 64)) * 64) + ((bl s 2) % 64)) * 64) + ((bl s 3) % 64)) > 57343) := whole_iff.1 (p_nt h83)
            have e : firstP s = (((((((((bl s 0) % 8) * 64) + ((bl s 1) % 64)) * 64) + ((bl s 2) % 64)) * 64) + ((bl s 3) % 64)), 4) := by
             unfold firstP
             rw [if_neg h4p]
             rw [if_neg h5p]
             rw [if_neg h6p]
             rw [if_neg h8p]
             rw [if_pos h10p]
             rw [if_neg (by rintro (h | h | h | h | h | h) <;> first | omega | (simp_all; done))]
            exact xr 8 (v := .tuple #[.int .i64 ((((((((bl s 0) % 8) * 64) + ((bl s 1) % 64)) * 64) + ((bl s 2) % 64)) * 64) + ((bl s 3) % 64)), .int .i64 4]) Tryz.func109 hR ⟨ret_int2 (by rw [e]) (by rw [e]), rfl⟩
     ·
      have e : firstP s = (0, 0) := by
       unfold firstP
       rw [if_neg h4p]
       rw [if_neg h5p]
       rw [if_neg h6p]
       rw [if_neg h8p]
       rw [if_neg h10p]
      exact xr 5 (v := .tuple #[.int .i64 0, .int .i64 0]) Tryz.func109 hR ⟨ret_int2 (by rw [e]) (by rw [e]), rfl⟩


end Go.Proofs.YthpodbngljfdmaaGreatDoor

namespace Go.Proofs.YthpodbngljfdmaaGreatDoor
open Go Go.Gw Go.UtfP Go.TokP Go.RowKit
set_option linter.unusedVariables false
set_option linter.unusedSimpArgs false
set_option maxRecDepth 20000
theorem sT70 : SliceT Tryz.prog 70 3 1 8 (.int .i64 0) := ⟨by kernel_rfl, ⟨_, rfl, by kernel_rfl, by kernel_rfl, by kernel_rfl⟩, rfl, by decide⟩
theorem sT76 : SliceT Tryz.prog 76 5 1 1 (.int .u8 0) := ⟨by kernel_rfl, ⟨_, rfl, by kernel_rfl, by kernel_rfl, by kernel_rfl⟩, rfl, by decide⟩
theorem pE3 : Plain Tryz.prog 3 := ⟨.int .i64, by kernel_rfl, (fun _ h => by cases h), (fun _ _ h => by cases h)⟩


set_option maxHeartbeats 400000 in
theorem encode_L (v : Value) (l : List Int) {w0 : World} (hv : Rd w0 1 v l.length (ivals .i64 l)) (hlen : l.length * 8 ≤ 140737488355328) (R : Ending → World → Prop) (hR : R = (fun e w' => e = .returned (.tuple #[sS (encT l), .int .i64 (encE l)]) ∧ Mem [] w0 w' [])) : ∀ (N : Nat) (k : Nat) (b : Value) (w : World) (hk : k ≤ l.length) (hw : ∀ j, j < k → whole (l.getD j 0) = true) (hM : Mem [] w0 w [⟨5, 1, b, (List.length (enc (List.take k l))), (ivals .u8 (enc (List.take k l)))⟩]) (hN : l.length - k < N), GoS Tryz.prog 85 R 82 [iC Tryz.f85 [1,1,0,1,0,0], iL Tryz.f85 [1,1,0,1,0,0], .inBlock 0, iC Tryz.f85 [1,1,1]] [(4, b), (8, v), (9, iN l.length), (10, iN k)] w := by
 intro N
 induction N with
 | zero => intro k b w hk hw hM hN; exact absurd hN (Nat.not_lt_zero _)
 | succ N ih =>
  intro k b w hk hw hM hN
  refine xs ?_
  refine xc 5 (((k : Nat) : Int) < ((l.length : Nat) : Int)) (fun h1p => ?_) (fun h1p => ?_)
  ·
   have h1 : (decide (((k : Nat) : Int) < ((l.length : Nat) : Int))) = true := decide_eq_true h1p
   refine xat 5 sT70 (hv.kept0 hM.kept) ((k : Nat) : Int) k (fun p4 hp5 => ?_)
   refine xv 0 (at_load pE3 (hv.kept0 hM.kept) hp5 (ivals_at (by first | omega | (dsimp only; omega)))) ?_
   refine xka 6 (whole_c (List.getD l k 0) w) ?_
   refine xb 2 (!(whole (List.getD l k 0))) (fun h9 => ?_) (fun h9 => ?_)
   ·
    have hM10 := hM.sub (sD sR)
    have e := allW_no (k := k) (by omega) (p_nf h9)
    exact xr 5 (v := .tuple #[sS ([]), .int .i64 1]) Tryz.func85 hR ⟨ret_str2 (by rw [encT, e]; rfl) (by rw [encE, e]; rfl), hM10⟩
   ·
    have h9p : 0 ≤ (List.getD l k 0) ∧ (List.getD l k 0) ≤ 1114111 ∧ ((List.getD l k 0) < 55296 ∨ (List.getD l k 0) > 57343) := whole_iff.1 (p_nt h9)
    refine xc 8 ((List.getD l k 0) < 128) (fun h11p => ?_) (fun h11p => ?_)
    ·
     refine xcv 3 .i64 .u8 (List.getD l k 0) (List.getD l k 0) (IntWalk.u8_in _ (by omega)) ?_
     refine xx 0 (m_lit sT76 hM (n := 1) (parts := #[(0, .int .u8 (List.getD l k 0))]) (cs := [.int .u8 (List.getD l k 0)]) (by decide) (by kernel_rfl) rfl) (fun v12 w13 hM15 => ?_)
     refine xx 0 (m_append sT76 hM15 1 rfl (hM15.rd 0 rfl) (oneL rfl) (by have h1 := enc_len (List.take k l); have h2 : (List.take k l).length = k := (by rw [List.length_take]; omega); (try dsimp only); omega) (by have h1 := enc_len (List.take k l); have h2 : (List.take k l).length = k := (by rw [List.length_take]; omega); (try dsimp only); omega) 76) (fun v16 w17 hM19 => ?_)
     have hM20 : Mem [] w0 w17 [⟨5, 1, v12, 1, [.int .u8 (List.getD l k 0)]⟩, ⟨5, 1, v16, (List.length ((enc (List.take k l)) ++ ([(List.getD l k 0)] : List Int))), (ivals .u8 ((enc (List.take k l)) ++ ([(List.getD l k 0)] : List Int)))⟩] := hM19.cast (by first | (simp [ivals, svals, bvals, nvals, u8s, Nat.add_assoc]; done) | (simp [ivals, svals, bvals, nvals, u8s, Nat.add_assoc]; omega))
     have hM22 := hM20.sub (sD (sK sR))
     refine xa 5 ((k : Nat) : Int) 1 (((k + 1) : Nat) : Int) ?_
     have e : ((enc (List.take k l)) ++ ([(List.getD l k 0)] : List Int)) = enc (List.take (k + 1) l) := by
      rw [take_snoc l (by omega), enc_snoc]
      unfold one
      (repeat' split) <;> first | rfl | omega
     rw [e] at hM22
     exact xl 3 (ih (k + 1) _ _ (by omega) (fun j hj => by rcases Nat.lt_succ_iff_lt_or_eq.1 hj with h | h; exact hw j h; subst h; exact p_nf2 h9) hM22 (by omega))
    ·
     refine xc 6 ((List.getD l k 0) < 2048) (fun h23p => ?_) (fun h23p => ?_)
     ·
      refine xo 3 .shr (.int .i64 (List.getD l k 0)) (.int .u64 6) (v := .int .i64 ((List.getD l k 0) / 64)) (fun _ => f_shr (by decide) (by rw [show min (Int.toNat 6) (IntKind.bits .i64) = 6 by decide]; exact fdiv_pow _ 6 64 (by decide) (by decide))) ?_
      refine xo 0 .or (.int .i64 192) (.int .i64 ((List.getD l k 0) / 64)) (v := .int .i64 (192 + ((List.getD l k 0) / 64))) (fun _ => f_or (or_i64 6 64 (by decide) (by omega) (by omega) (by omega) (by omega) (by omega))) ?_
      refine xcv 0 .i64 .u8 (192 + ((List.getD l k 0) / 64)) (192 + ((List.getD l k 0) / 64)) (IntWalk.u8_in _ (by omega)) ?_
      refine xo 1 .and (.int .i64 (List.getD l k 0)) (.int .i64 63) (v := .int .i64 ((List.getD l k 0) % 64)) (fun _ => f_and (and_i64 _ 6 63 (by decide) (by decide))) ?_
      refine xo 0 .or (.int .i64 128) (.int .i64 ((List.getD l k 0) % 64)) (v := .int .i64 (128 + ((List.getD l k 0) % 64))) (fun _ => f_or (or_i64 6 64 (by decide) (by omega) (by omega) (by omega) (by omega) (by omega))) ?_
      refine xcv 0 .i64 .u8 (128 + ((List.getD l k 0) % 64)) (128 + ((List.getD l k 0) % 64)) (IntWalk.u8_in _ (by omega)) ?_
      refine xx 0 (m_lit sT76 hM (n := 2) (parts := #[(0, .int .u8 (192 + ((List.getD l k 0) / 64))), (1, .int .u8 (128 + ((List.getD l k 0) % 64)))]) (cs := [.int .u8 (192 + ((List.getD l k 0) / 64)), .int .u8 (128 + ((List.getD l k 0) % 64))]) (by decide) (by kernel_rfl) rfl) (fun v24 w25 hM27 => ?_)
      refine xx 0 (m_append sT76 hM27 1 rfl (hM27.rd 0 rfl) (oneL rfl) (by have h1 := enc_len (List.take k l); have h2 : (List.take k l).length = k := (by rw [List.length_take]; omega); (try dsimp only); omega) (by have h1 := enc_len (List.take k l); have h2 : (List.take k l).length = k := (by rw [List.length_take]; omega); (try dsimp only); omega) 76) (fun v28 w29 hM31 => ?_)
      have hM32 : Mem [] w0 w29 [⟨5, 1, v24, 2, [.int .u8 (192 + ((List.getD l k 0) / 64)), .int .u8 (128 + ((List.getD l k 0) % 64))]⟩, ⟨5, 1, v28, (List.length ((enc (List.take k l)) ++ ([(192 + ((List.getD l k 0) / 64)), (128 + ((List.getD l k 0) % 64))] : List Int))), (ivals .u8 ((enc (List.take k l)) ++ ([(192 + ((List.getD l k 0) / 64)), (128 + ((List.getD l k 0) % 64))] : List Int)))⟩] := hM31.cast (by first | (simp [ivals, svals, bvals, nvals, u8s, Nat.add_assoc]; done) | (simp [ivals, svals, bvals, nvals, u8s, Nat.add_assoc]; omega))
      have hM39 := hM32.sub (sD (sK sR))
      refine xa 5 ((k : Nat) : Int) 1 (((k + 1) : Nat) : Int) ?_
      have e : ((enc (List.take k l)) ++ ([(192 + ((List.getD l k 0) / 64)), (128 + ((List.getD l k 0) % 64))] : List Int)) = enc (List.take (k + 1) l) := by
       rw [take_snoc l (by omega), enc_snoc]
       unfold one
       (repeat' split) <;> first | rfl | omega
      rw [e] at hM39
      exact xl 3 (ih (k + 1) _ _ (by omega) (fun j hj => by rcases Nat.lt_succ_iff_lt_or_eq.1 hj with h | h; exact hw j h; subst h; exact p_nf2 h9) hM39 (by omega))
     ·
      refine xc 6 ((List.getD l k 0) < 65536) (fun h40p => ?_) (fun h40p => ?_)
      ·
       refine xo 3 .shr (.int .i64 (List.getD l k 0)) (.int .u64 12) (v := .int .i64 ((List.getD l k 0) / 4096)) (fun _ => f_shr (by decide) (by rw [show min (Int.toNat 12) (IntKind.bits .i64) = 12 by decide]; exact fdiv_pow _ 12 4096 (by decide) (by decide))) ?_
       refine xo 0 .or (.int .i64 224) (.int .i64 ((List.getD l k 0) / 4096)) (v := .int .i64 (224 + ((List.getD l k 0) / 4096))) (fun _ => f_or (or_i64 5 32 (by decide) (by omega) (by omega) (by omega) (by omega) (by omega))) ?_
       refine xcv 0 .i64 .u8 (224 + ((List.getD l k 0) / 4096)) (224 + ((List.getD l k 0) / 4096)) (IntWalk.u8_in _ (by omega)) ?_
       refine xo 1 .shr (.int .i64 (List.getD l k 0)) (.int .u64 6) (v := .int .i64 ((List.getD l k 0) / 64)) (fun _ => f_shr (by decide) (by rw [show min (Int.toNat 6) (IntKind.bits .i64) = 6 by decide]; exact fdiv_pow _ 6 64 (by decide) (by decide))) ?_
       refine xo 0 .and (.int .i64 ((List.getD l k 0) / 64)) (.int .i64 63) (v := .int .i64 (((List.getD l k 0) / 64) % 64)) (fun _ => f_and (and_i64 _ 6 63 (by decide) (by decide))) ?_
       refine xo 0 .or (.int .i64 128) (.int .i64 (((List.getD l k 0) / 64) % 64)) (v := .int .i64 (128 + (((List.getD l k 0) / 64) % 64))) (fun _ => f_or (or_i64 6 64 (by decide) (by omega) (by omega) (by omega) (by omega) (by omega))) ?_
       refine xcv 0 .i64 .u8 (128 + (((List.getD l k 0) / 64) % 64)) (128 + (((List.getD l k 0) / 64) % 64)) (IntWalk.u8_in _ (by omega)) ?_
       refine xo 1 .and (.int .i64 (List.getD l k 0)) (.int .i64 63) (v := .int .i64 ((List.getD l k 0) % 64)) (fun _ => f_and (and_i64 _ 6 63 (by decide) (by decide))) ?_
       refine xo 0 .or (.int .i64 128) (.int .i64 ((List.getD l k 0) % 64)) (v := .int .i64 (128 + ((List.getD l k 0) % 64))) (fun _ => f_or (or_i64 6 64 (by decide) (by omega) (by omega) (by omega) (by omega) (by omega))) ?_
       refine xcv 0 .i64 .u8 (128 + ((List.getD l k 0) % 64)) (128 + ((List.getD l k 0) % 64)) (IntWalk.u8_in _ (by omega)) ?_
       refine xx 0 (m_lit sT76 hM (n := 3) (parts := #[(0, .int .u8 (224 + ((List.getD l k 0) / 4096))), (1, .int .u8 (128 + (((List.getD l k 0) / 64) % 64))), (2, .int .u8 (128 + ((List.getD l k 0) % 64)))]) (cs := [.int .u8 (224 + ((List.getD l k 0) / 4096)), .int .u8 (128 + (((List.getD l k 0) / 64) % 64)), .int .u8 (128 + ((List.getD l k 0) % 64))]) (by decide) (by kernel_rfl) rfl) (fun v41 w42 hM44 => ?_)
       refine xx 0 (m_append sT76 hM44 1 rfl (hM44.rd 0 rfl) (oneL rfl) (by have h1 := enc_len (List.take k l); have h2 : (List.take k l).length = k := (by rw [List.length_take]; omega); (try dsimp only); omega) (by have h1 := enc_len (List.take k l); have h2 : (List.take k l).length = k := (by rw [List.length_take]; omega); (try dsimp only); omega) 76) (fun v45 w46 hM48 => ?_)
       have hM49 : Mem [] w0 w46 [⟨5, 1, v41, 3, [.int .u8 (224 + ((List.getD l k 0) / 4096)), .int .u8 (128 + (((List.getD l k 0) / 64) % 64)), .int .u8 (128 + ((List.getD l k 0) % 64))]⟩, ⟨5, 1, v45, (List.length ((enc (List.take k l)) ++ ([(224 + ((List.getD l k 0) / 4096)), (128 + (((List.getD l k 0) / 64) % 64)), (128 + ((List.getD l k 0) % 64))] : List Int))), (ivals .u8 ((enc (List.take k l)) ++ ([(224 + ((List.getD l k 0) / 4096)), (128 + (((List.getD l k 0) / 64) % 64)), (128 + ((List.getD l k 0) % 64))] : List Int)))⟩] := hM48.cast (by first | (simp [ivals, svals, bvals, nvals, u8s, Nat.add_assoc]; done) | (simp [ivals, svals, bvals, nvals, u8s, Nat.add_assoc]; omega))
       have hM60 := hM49.sub (sD (sK sR))
       refine xa 5 ((k : Nat) : Int) 1 (((k + 1) : Nat) : Int) ?_
       have e : ((enc (List.take k l)) ++ ([(224 + ((List.getD l k 0) / 4096)), (128 + (((List.getD l k 0) / 64) % 64)), (128 + ((List.getD l k 0) % 64))] : List Int)) = enc (List.take (k + 1) l) := by
        rw [take_snoc l (by omega), enc_snoc]
        unfold one
        (repeat' split) <;> first | rfl | omega
       rw [e] at hM60
       exact xl 3 (ih (k + 1) _ _ (by omega) (fun j hj => by rcases Nat.lt_succ_iff_lt_or_eq.1 hj with h | h; exact hw j h; subst h; exact p_nf2 h9) hM60 (by omega))
      ·
       refine xo 3 .shr (.int .i64 (List.getD l k 0)) (.int .u64 18) (v := .int .i64 ((List.getD l k 0) / 262144)) (fun _ => f_shr (by decide) (by rw [show min (Int.toNat 18) (IntKind.bits .i64) = 18 by decide]; exact fdiv_pow _ 18 262144 (by decide) (by decide))) ?_
       refine xo 0 .or (.int .i64 240) (.int .i64 ((List.getD l k 0) / 262144)) (v := .int .i64 (240 + ((List.getD l k 0) / 262144))) (fun _ => f_or (or_i64 4 16 (by decide) (by omega) (by omega) (by omega) (by omega) (by omega))) ?_
       refine xcv 0 .i64 .u8 (240 + ((List.getD l k 0) / 262144)) (240 + ((List.getD l k 0) / 262144)) (IntWalk.u8_in _ (by omega)) ?_
       refine xo 1 .shr (.int .i64 (List.getD l k 0)) (.int .u64 12) (v := .int .i64 ((List.getD l k 0) / 4096)) (fun _ => f_shr (by decide) (by rw [show min (Int.toNat 12) (IntKind.bits .i64) = 12 by decide]; exact fdiv_pow _ 12 4096 (by decide) (by decide))) ?_
       refine xo 0 .and (.int .i64 ((List.getD l k 0) / 4096)) (.int .i64 63) (v := .int .i64 (((List.getD l k 0) / 4096) % 64)) (fun _ => f_and (and_i64 _ 6 63 (by decide) (by decide))) ?_
       refine xo 0 .or (.int .i64 128) (.int .i64 (((List.getD l k 0) / 4096) % 64)) (v := .int .i64 (128 + (((List.getD l k 0) / 4096) % 64))) (fun _ => f_or (or_i64 6 64 (by decide) (by omega) (by omega) (by omega) (by omega) (by omega))) ?_
       refine xcv 0 .i64 .u8 (128 + (((List.getD l k 0) / 4096) % 64)) (128 + (((List.getD l k 0) / 4096) % 64)) (IntWalk.u8_in _ (by omega)) ?_
       refine xo 1 .shr (.int .i64 (List.getD l k 0)) (.int .u64 6) (v := .int .i64 ((List.getD l k 0) / 64)) (fun _ => f_shr (by decide) (by rw [show min (Int.toNat 6) (IntKind.bits .i64) = 6 by decide]; exact fdiv_pow _ 6 64 (by decide) (by decide))) ?_
       refine xo 0 .and (.int .i64 ((List.getD l k 0) / 64)) (.int .i64 63) (v := .int .i64 (((List.getD l k 0) / 64) % 64)) (fun _ => f_and (and_i64 _ 6 63 (by decide) (by decide))) ?_
       refine xo 0 .or (.int .i64 128) (.int .i64 (((List.getD l k 0) / 64) % 64)) (v := .int .i64 (128 + (((List.getD l k 0) / 64) % 64))) (fun _ => f_or (or_i64 6 64 (by decide) (by omega) (by omega) (by omega) (by omega) (by omega))) ?_
       refine xcv 0 .i64 .u8 (128 + (((List.getD l k 0) / 64) % 64)) (128 + (((List.getD l k 0) / 64) % 64)) (IntWalk.u8_in _ (by omega)) ?_
       refine xo 1 .and (.int .i64 (List.getD l k 0)) (.int .i64 63) (v := .int .i64 ((List.getD l k 0) % 64)) (fun _ => f_and (and_i64 _ 6 63 (by decide) (by decide))) ?_
       refine xo 0 .or (.int .i64 128) (.int .i64 ((List.getD l k 0) % 64)) (v := .int .i64 (128 + ((List.getD l k 0) % 64))) (fun _ => f_or (or_i64 6 64 (by decide) (by omega) (by omega) (by omega) (by omega) (by omega))) ?_
       refine xcv 0 .i64 .u8 (128 + ((List.getD l k 0) % 64)) (128 + ((List.getD l k 0) % 64)) (IntWalk.u8_in _ (by omega)) ?_
       refine xx 0 (m_lit sT76 hM (n := 4) (parts := #[(0, .int .u8 (240 + ((List.getD l k 0) / 262144))), (1, .int .u8 (128 + (((List.getD l k 0) / 4096) % 64))), (2, .int .u8 (128 + (((List.getD l k 0) / 64) % 64))), (3, .int .u8 (128 + ((List.getD l k 0) % 64)))]) (cs := [.int .u8 (240 + ((List.getD l k 0) / 262144)), .int .u8 (128 + (((List.getD l k 0) / 4096) % 64)), .int .u8 (128 + (((List.getD l k 0) / 64) % 64)), .int .u8 (128 + ((List.getD l k 0) % 64))]) (by decide) (by kernel_rfl) rfl) (fun v61 w62 hM64 => ?_)
       refine xx 0 (m_append sT76 hM64 1 rfl (hM64.rd 0 rfl) (oneL rfl) (by have h1 := enc_len (List.take k l); have h2 : (List.take k l).length = k := (by rw [List.length_take]; omega); (try dsimp only); omega) (by have h1 := enc_len (List.take k l); have h2 : (List.take k l).length = k := (by rw [List.length_take]; omega); (try dsimp only); omega) 76) (fun v65 w66 hM68 => ?_)
       have hM69 : Mem [] w0 w66 [⟨5, 1, v61, 4, [.int .u8 (240 + ((List.getD l k 0) / 262144)), .int .u8 (128 + (((List.getD l k 0) / 4096) % 64)), .int .u8 (128 + (((List.getD l k 0) / 64) % 64)), .int .u8 (128 + ((List.getD l k 0) % 64))]⟩, ⟨5, 1, v65, (List.length ((enc (List.take k l)) ++ ([(240 + ((List.getD l k 0) / 262144)), (128 + (((List.getD l k 0) / 4096) % 64)), (128 + (((List.getD l k 0) / 64) % 64)), (128 + ((List.getD l k 0) % 64))] : List Int))), (ivals .u8 ((enc (List.take k l)) ++ ([(240 + ((List.getD l k 0) / 262144)), (128 + (((List.getD l k 0) / 4096) % 64)), (128 + (((List.getD l k 0) / 64) % 64)), (128 + ((List.getD l k 0) % 64))] : List Int)))⟩] := hM68.cast (by first | (simp [ivals, svals, bvals, nvals, u8s, Nat.add_assoc]; done) | (simp [ivals, svals, bvals, nvals, u8s, Nat.add_assoc]; omega))
       have hM84 := hM69.sub (sD (sK sR))
       refine xa 5 ((k : Nat) : Int) 1 (((k + 1) : Nat) : Int) ?_
       have e : ((enc (List.take k l)) ++ ([(240 + ((List.getD l k 0) / 262144)), (128 + (((List.getD l k 0) / 4096) % 64)), (128 + (((List.getD l k 0) / 64) % 64)), (128 + ((List.getD l k 0) % 64))] : List Int)) = enc (List.take (k + 1) l) := by
        rw [take_snoc l (by omega), enc_snoc]
        unfold one
        (repeat' split) <;> first | rfl | omega
       rw [e] at hM84
       exact xl 3 (ih (k + 1) _ _ (by omega) (fun j hj => by rcases Nat.lt_succ_iff_lt_or_eq.1 hj with h | h; exact hw j h; subst h; exact p_nf2 h9) hM84 (by omega))
  ·
   refine xv 4 (show (convert 76 9 (b)).run Tryz.prog w = .ok (sS (bytesOf (enc (List.take k l)))) w from f_string_i sT76 (by kernel_rfl) (by kernel_rfl) (hM.rd 0 rfl) (by exact enc_bd (allW_upto hw))) ?_
   have hM3 := hM.sub (sD sR)
   refine xr0 3 (v := .tuple #[sS (bytesOf (enc (List.take k l))), .int .i64 0]) Tryz.func85 ?_
   rw [hR]
   have e : k = l.length := by omega
   subst e
   have e := allW_all hw
   exact ⟨ret_str2 (by rw [encT, if_pos e, List.take_length]) (by rw [encE, if_pos e]), hM3⟩

set_option maxHeartbeats 400000 in
theorem encode_c (v : Value) (l : List Int) (w : World) (hv : Rd w 1 v l.length (ivals .i64 l)) (hlen : l.length * 8 ≤ 140737488355328) :
  Calls Tryz.prog 85 #[v] w (fun e w' => e = .returned (.tuple #[sS (encT l), .int .i64 (encE l)]) ∧ Mem [] w w' []) := by
 refine xe 82 Tryz.func85 (fun R hR => ?_)
 have hM0 := Mem.start w
 refine xx 7 (m_lit sT76 hM0 (n := 0) (parts := #[]) (cs := []) (by decide) (by kernel_rfl) rfl) (fun v1 w2 hM4 => ?_)
 refine xv 6 (f_slen sT70 (hv.kept0 hM4.kept) 3 w2) ?_
 exact xl 4 (encode_L v l hv hlen R hR (l.length + 1) 0 v1 w2 (by omega) (by intro j hj; omega) (hM4.cast (by simp [enc, ivals])) (by omega))


end Go.Proofs.YthpodbngljfdmaaGreatDoor

namespace Go.Proofs.YthpodbngljfdmaaGreatDoor
open Go Go.Gw Go.UtfP Go.TokP Go.RowKit
set_option linter.unusedVariables false
set_option linter.unusedSimpArgs false
set_option maxRecDepth 20000
theorem oT195 : ObjT Tryz.prog 195 5 (.agg #[.int .i64 0, .int .i64 0, .int .i64 0, .int .i64 0, .int .i64 0]) := ⟨⟨_, rfl, by kernel_rfl, by kernel_rfl⟩, rfl⟩
theorem aE195 : Agged Tryz.prog 195 5 := ⟨⟨_, Tryz.underlying195, .inr ⟨_, _, rfl⟩⟩, _, rfl, by kernel_rfl⟩


set_option maxHeartbeats 400000 in
theorem one_c (c : Int) (hc0 : whole c = true) (w : World) :
  Calls Tryz.prog 127 #[.int .i64 c] w (fun e w' => e = .returned (sS (bytesOf (one c))) ∧ Mem [] w w' []) := by
 have hc := whole_iff.1 hc0
 refine xe 58 Tryz.func127 (fun R hR => ?_)
 have hM0 := Mem.start w
 refine xc 10 (c < 128) (fun h1p => ?_) (fun h1p => ?_)
 ·
  refine xcv 3 .i64 .u8 c c (IntWalk.u8_in _ (by omega)) ?_
  refine xx 0 (m_lit sT76 hM0 (n := 1) (parts := #[(0, .int .u8 c)]) (cs := [.int .u8 c]) (by decide) (by kernel_rfl) rfl) (fun v2 w3 hM5 => ?_)
  refine xv 0 (show (convert 76 9 (v2)).run Tryz.prog w3 = .ok (sS (bytesOf ([c] : List Int))) w3 from f_string_i sT76 (by kernel_rfl) (by kernel_rfl) (hM5.rd 0 rfl) (by intro x hx; simp at hx; omega)) ?_
  have hM8 := hM5.sub (sD sR)
  exact xr 2 (v := sS (bytesOf ([c] : List Int))) Tryz.func127 hR ⟨ret_str (congrArg bytesOf (by unfold one; (repeat' split) <;> first | rfl | omega)), hM8⟩
 ·
  refine xc 7 (c < 2048) (fun h9p => ?_) (fun h9p => ?_)
  ·
   refine xo 3 .quo (.int .i64 c) (.int .i64 64) (v := .int .i64 (c / 64)) (fun _ => f_quo (by decide) (IntWalk.i64_quo _ _ (by omega))) ?_
   refine xa 0 192 (c / 64) (192 + (c / 64)) ?_
   refine xcv 0 .i64 .u8 (192 + (c / 64)) (192 + (c / 64)) (IntWalk.u8_in _ (by omega)) ?_
   refine xo 1 .rem (.int .i64 c) (.int .i64 64) (v := .int .i64 (c % 64)) (fun _ => f_rem (by decide) (IntWalk.rem_in _ _ (by omega))) ?_
   refine xa 0 128 (c % 64) (128 + (c % 64)) ?_
   refine xcv 0 .i64 .u8 (128 + (c % 64)) (128 + (c % 64)) (IntWalk.u8_in _ (by omega)) ?_
   refine xx 0 (m_lit sT76 hM0 (n := 2) (parts := #[(0, .int .u8 (192 + (c / 64))), (1, .int .u8 (128 + (c % 64)))]) (cs := [.int .u8 (192 + (c / 64)), .int .u8 (128 + (c % 64))]) (by decide) (by kernel_rfl) rfl) (fun v10 w11 hM13 => ?_)
   refine xv 0 (show (convert 76 9 (v10)).run Tryz.prog w11 = .ok (sS (bytesOf ([(192 + (c / 64)), (128 + (c % 64))] : List Int))) w11 from f_string_i sT76 (by kernel_rfl) (by kernel_rfl) (hM13.rd 0 rfl) (by intro x hx; simp at hx; omega)) ?_
   have hM21 := hM13.sub (sD sR)
   exact xr 2 (v := sS (bytesOf ([(192 + (c / 64)), (128 + (c % 64))] : List Int))) Tryz.func127 hR ⟨ret_str (congrArg bytesOf (by unfold one; (repeat' split) <;> first | rfl | omega)), hM21⟩
  ·
   refine xc 7 (c < 65536) (fun h22p => ?_) (fun h22p => ?_)
   ·
    refine xo 3 .quo (.int .i64 c) (.int .i64 4096) (v := .int .i64 (c / 4096)) (fun _ => f_quo (by decide) (IntWalk.i64_quo _ _ (by omega))) ?_
    refine xa 0 224 (c / 4096) (224 + (c / 4096)) ?_
    refine xcv 0 .i64 .u8 (224 + (c / 4096)) (224 + (c / 4096)) (IntWalk.u8_in _ (by omega)) ?_
    refine xo 1 .quo (.int .i64 c) (.int .i64 64) (v := .int .i64 (c / 64)) (fun _ => f_quo (by decide) (IntWalk.i64_quo _ _ (by omega))) ?_
    refine xo 0 .rem (.int .i64 (c / 64)) (.int .i64 64) (v := .int .i64 ((c / 64) % 64)) (fun _ => f_rem (by decide) (IntWalk.rem_in _ _ (by omega))) ?_
    refine xa 0 128 ((c / 64) % 64) (128 + ((c / 64) % 64)) ?_
    refine xcv 0 .i64 .u8 (128 + ((c / 64) % 64)) (128 + ((c / 64) % 64)) (IntWalk.u8_in _ (by omega)) ?_
    refine xo 1 .rem (.int .i64 c) (.int .i64 64) (v := .int .i64 (c % 64)) (fun _ => f_rem (by decide) (IntWalk.rem_in _ _ (by omega))) ?_
    refine xa 0 128 (c % 64) (128 + (c % 64)) ?_
    refine xcv 0 .i64 .u8 (128 + (c % 64)) (128 + (c % 64)) (IntWalk.u8_in _ (by omega)) ?_
    refine xx 0 (m_lit sT76 hM0 (n := 3) (parts := #[(0, .int .u8 (224 + (c / 4096))), (1, .int .u8 (128 + ((c / 64) % 64))), (2, .int .u8 (128 + (c % 64)))]) (cs := [.int .u8 (224 + (c / 4096)), .int .u8 (128 + ((c / 64) % 64)), .int .u8 (128 + (c % 64))]) (by decide) (by kernel_rfl) rfl) (fun v23 w24 hM26 => ?_)
    refine xv 0 (show (convert 76 9 (v23)).run Tryz.prog w24 = .ok (sS (bytesOf ([(224 + (c / 4096)), (128 + ((c / 64) % 64)), (128 + (c % 64))] : List Int))) w24 from f_string_i sT76 (by kernel_rfl) (by kernel_rfl) (hM26.rd 0 rfl) (by intro x hx; simp at hx; omega)) ?_
    have hM38 := hM26.sub (sD sR)
    exact xr 2 (v := sS (bytesOf ([(224 + (c / 4096)), (128 + ((c / 64) % 64)), (128 + (c % 64))] : List Int))) Tryz.func127 hR ⟨ret_str (congrArg bytesOf (by unfold one; (repeat' split) <;> first | rfl | omega)), hM38⟩
   ·
    refine xo 4 .quo (.int .i64 c) (.int .i64 262144) (v := .int .i64 (c / 262144)) (fun _ => f_quo (by decide) (IntWalk.i64_quo _ _ (by omega))) ?_
    refine xa 0 240 (c / 262144) (240 + (c / 262144)) ?_
    refine xcv 0 .i64 .u8 (240 + (c / 262144)) (240 + (c / 262144)) (IntWalk.u8_in _ (by omega)) ?_
    refine xo 1 .quo (.int .i64 c) (.int .i64 4096) (v := .int .i64 (c / 4096)) (fun _ => f_quo (by decide) (IntWalk.i64_quo _ _ (by omega))) ?_
    refine xo 0 .rem (.int .i64 (c / 4096)) (.int .i64 64) (v := .int .i64 ((c / 4096) % 64)) (fun _ => f_rem (by decide) (IntWalk.rem_in _ _ (by omega))) ?_
    refine xa 0 128 ((c / 4096) % 64) (128 + ((c / 4096) % 64)) ?_
    refine xcv 0 .i64 .u8 (128 + ((c / 4096) % 64)) (128 + ((c / 4096) % 64)) (IntWalk.u8_in _ (by omega)) ?_
    refine xo 1 .quo (.int .i64 c) (.int .i64 64) (v := .int .i64 (c / 64)) (fun _ => f_quo (by decide) (IntWalk.i64_quo _ _ (by omega))) ?_
    refine xo 0 .rem (.int .i64 (c / 64)) (.int .i64 64) (v := .int .i64 ((c / 64) % 64)) (fun _ => f_rem (by decide) (IntWalk.rem_in _ _ (by omega))) ?_
    refine xa 0 128 ((c / 64) % 64) (128 + ((c / 64) % 64)) ?_
    refine xcv 0 .i64 .u8 (128 + ((c / 64) % 64)) (128 + ((c / 64) % 64)) (IntWalk.u8_in _ (by omega)) ?_
    refine xo 1 .rem (.int .i64 c) (.int .i64 64) (v := .int .i64 (c % 64)) (fun _ => f_rem (by decide) (IntWalk.rem_in _ _ (by omega))) ?_
    refine xa 0 128 (c % 64) (128 + (c % 64)) ?_
    refine xcv 0 .i64 .u8 (128 + (c % 64)) (128 + (c % 64)) (IntWalk.u8_in _ (by omega)) ?_
    refine xx 0 (m_lit sT76 hM0 (n := 4) (parts := #[(0, .int .u8 (240 + (c / 262144))), (1, .int .u8 (128 + ((c / 4096) % 64))), (2, .int .u8 (128 + ((c / 64) % 64))), (3, .int .u8 (128 + (c % 64)))]) (cs := [.int .u8 (240 + (c / 262144)), .int .u8 (128 + ((c / 4096) % 64)), .int .u8 (128 + ((c / 64) % 64)), .int .u8 (128 + (c % 64))]) (by decide) (by kernel_rfl) rfl) (fun v39 w40 hM42 => ?_)
    refine xv 0 (show (convert 76 9 (v39)).run Tryz.prog w40 = .ok (sS (bytesOf ([(240 + (c / 262144)), (128 + ((c / 4096) % 64)), (128 + ((c / 64) % 64)), (128 + (c % 64))] : List Int))) w40 from f_string_i sT76 (by kernel_rfl) (by kernel_rfl) (hM42.rd 0 rfl) (by intro x hx; simp at hx; omega)) ?_
    have hM58 := hM42.sub (sD sR)
    exact xr 2 (v := sS (bytesOf ([(240 + (c / 262144)), (128 + ((c / 4096) % 64)), (128 + ((c / 64) % 64)), (128 + (c % 64))] : List Int))) Tryz.func127 hR ⟨ret_str (congrArg bytesOf (by unfold one; (repeat' split) <;> first | rfl | omega)), hM58⟩

set_option maxHeartbeats 400000 in
theorem rencode_L (v : Value) (l : List Int) {w0 : World} (hv : Rd w0 1 v l.length (ivals .i64 l)) (hlen : l.length * 8 ≤ 140737488355328) (R : Ending → World → Prop) (hR : R = (fun e w' => e = .returned (.tuple #[sS (encT l), .int .i64 (encE l)]) ∧ Mem [] w0 w' [])) : ∀ (N : Nat) (k : Nat) (w : World) (hk : k ≤ l.length) (hw : ∀ j, j < k → whole (l.getD j 0) = true) (hM : Mem [] w0 w []) (hN : l.length - k < N), GoS Tryz.prog 102 R 26 [iC Tryz.f102 [1,1,0,1,0,0], iL Tryz.f102 [1,1,0,1,0,0], .inBlock 0, iC Tryz.f102 [1,1,1]] [(0, v), (4, sS (bytesOf (enc (List.take k l)))), (5, iN k)] w := by
 intro N
 induction N with
 | zero => intro k w hk hw hM hN; exact absurd hN (Nat.not_lt_zero _)
 | succ N ih =>
  intro k w hk hw hM hN
  refine xs ?_
  refine xv 5 (f_slen sT70 (hv.kept0 hM.kept) 3 w) ?_
  refine xc 2 (((k : Nat) : Int) < (((List.length l) : Nat) : Int)) (fun h2p => ?_) (fun h2p => ?_)
  ·
   have h2 : (decide (((k : Nat) : Int) < (((List.length l) : Nat) : Int))) = true := decide_eq_true h2p
   refine xat 8 sT70 (hv.kept0 hM.kept) ((k : Nat) : Int) k (fun p3 hp4 => ?_)
   refine xv 0 (at_load pE3 (hv.kept0 hM.kept) hp4 (ivals_at (by first | omega | (dsimp only; omega)))) ?_
   refine xka 0 (rwhole_c (List.getD l k 0) w) ?_
   refine xb 2 (!(whole (List.getD l k 0))) (fun h8 => ?_) (fun h8 => ?_)
   ·
    have e := allW_no (k := k) (by omega) (p_nf h8)
    exact xr 5 (v := .tuple #[sS ([]), .int .i64 1]) Tryz.func102 hR ⟨ret_str2 (by rw [encT, e]; rfl) (by rw [encE, e]; rfl), hM⟩
   ·
    have h8p : 0 ≤ (List.getD l k 0) ∧ (List.getD l k 0) ≤ 1114111 ∧ ((List.getD l k 0) < 55296 ∨ (List.getD l k 0) > 57343) := whole_iff.1 (p_nt h8)
    refine xat 5 sT70 (hv.kept0 hM.kept) ((k : Nat) : Int) k (fun p9 hp10 => ?_)
    refine xv 0 (at_load pE3 (hv.kept0 hM.kept) hp10 (ivals_at (by first | omega | (dsimp only; omega)))) ?_
    refine xk 0 (one_c (List.getD l k 0) (p_nf2 h8) w) (fun w14 m15 => ?_)
    have hM16 := Mem.join hM m15
    refine xqa 0 (bytesOf (enc (List.take k l))) (bytesOf (one (List.getD l k 0))) ?_ (hl := (by have h1 := enc_len (List.take k l); have h2 : (List.take k l).length = k := (by rw [List.length_take]; omega); have h3 := one_len (List.getD l k 0); rw [bytesOf_len, bytesOf_len]; omega))
    refine xa 5 ((k : Nat) : Int) 1 (((k + 1) : Nat) : Int) ?_
    have e : ((bytesOf (enc (List.take k l))) ++ (bytesOf (one (List.getD l k 0)))) = bytesOf (enc (List.take (k + 1) l)) := by rw [take_snoc l (by omega), enc_snoc, bytesOf_app]
    refine xl 3 (l := [(0, v), (4, sS ((bytesOf (enc (List.take k l))) ++ (bytesOf (one (List.getD l k 0))))), (5, iN (k + 1))]) (GoS.cast (by rw [e]) (ih (k + 1) _ (by omega) (fun j hj => by rcases Nat.lt_succ_iff_lt_or_eq.1 hj with h | h; exact hw j h; subst h; exact p_nf2 h8) hM16 (by omega)))
  ·
   refine xr0 7 (v := .tuple #[sS (bytesOf (enc (List.take k l))), .int .i64 0]) Tryz.func102 ?_
   rw [hR]
   have e : k = l.length := by omega
   subst e
   have e := allW_all hw
   exact ⟨ret_str2 (by rw [encT, if_pos e, List.take_length]) (by rw [encE, if_pos e]), hM⟩

set_option maxHeartbeats 400000 in
theorem rencode_c (v : Value) (l : List Int) (w : World) (hv : Rd w 1 v l.length (ivals .i64 l)) (hlen : l.length * 8 ≤ 140737488355328) :
  Calls Tryz.prog 102 #[v] w (fun e w' => e = .returned (.tuple #[sS (encT l), .int .i64 (encE l)]) ∧ Mem [] w w' []) := by
 refine xe 26 Tryz.func102 (fun R hR => ?_)
 have hM0 := Mem.start w
 exact xl 16 (rencode_L v l hv hlen R hR (l.length + 1) 0 w (by omega) (by intro j hj; omega) hM0 (by omega))

set_option maxHeartbeats 400000 in
theorem guess_c (s : List UInt8) (h1 : 1 ≤ s.length) (h4 : s.length ≤ 4) (w : World) :
  Calls Tryz.prog 125 #[sS s] w (fun e w' => e = .returned (.int .i64 (guessP s)) ∧ Mem [] w w' []) := by
 refine xe 30 Tryz.func125 (fun R hR => ?_)
 have hM0 := Mem.start w
 refine xx 7 (m_alloc oT195 hM0) (fun b1 w2 hM4 => ?_)
 have hM5 : Mem [] w w2 [⟨195, 5, (obj b1), 1, (ivals .i64 ([0, 0, 0, 0, 0] : List Int))⟩] := hM4
 refine xst 0 (c_stores (ys := [.int .i64 0, .int .i64 0, .int .i64 192, .int .i64 224, .int .i64 240]) aE195 hM5 0 rfl (cel_obj b1 0) rfl (by decide) (oneL rfl)) (fun w6 hM8 => ?_)
 have hM9 : Mem [] w w6 [⟨195, 5, (obj b1), 1, (ivals .i64 ([0, 0, 192, 224, 240] : List Int))⟩] := hM8
 refine xh 2 [] hM9 (sK sR) (fun w11 hM12 hS13 => ?_)
 have hb15 := bl_bd s 0
 refine yv [0] 1 (fun W_ hW_ => (show (Instr.index 9 (sS s) (.int .i64 0)).run Tryz.prog W_ = .ok (.int .u8 (bl s 0)) W_ from f_index 0 (by kernel_rfl) (by omega) (by first | omega | (simp; omega)))) hS13 ?_
 refine yv [] 2 (fun W_ hW_ => (show (convert 5 3 (.int .u8 (bl s 0))).run Tryz.prog W_ = .ok (.int .i64 (bl s 0)) W_ from f_conv (u := .int .u8) (by kernel_rfl) (by kernel_rfl) (IntWalk.i64_in _ (by omega)))) hS13 ?_
 refine yv [3] 4 (fun W_ hW_ => (show (Builtin.len_ #[9] 3 #[sS s]).run Tryz.prog W_ = .ok (iN s.length) W_ from f_len (by kernel_rfl))) hS13 ?_
 refine yv [] 5 (fun W_ hW_ => (show (Instr.indexAt 195 (pq b1) (iN s.length)).run Tryz.prog W_ = .ok (.pointer (some (Addr.add (⟨b1, 0, none⟩) (s.length * 1)))) W_ from f_arrAt (n := 5) (m := 1) Tryz.underlying195 (fun W => by kernel_rfl) (s.length) (by omega) (by first | omega | (simp; omega)) _ _ _)) hS13 ?_
 have hb16 := lead_bd (s.length)
 refine yl [] 6 hS13 pE3 0 rfl (Cel.cast (d := s.length) (Cel.add (cel_obj b1 0) (s.length * 1)) (by omega)) (ivals_at (by first | omega | (simp; omega))) ?_
 refine yv [] 7 (fun W_ hW_ => (show (binOp .sub 3 (.int .i64 (bl s 0)) (.int .i64 (List.getD ([0, 0, 192, 224, 240] : List Int) (s.length) 0))).run Tryz.prog W_ = .ok (.int .i64 ((bl s 0) - (List.getD ([0, 0, 192, 224, 240] : List Int) (s.length) 0))) W_ from f_sub (IntWalk.i64_in _ (by omega)))) hS13 ?_
 refine ydp [8] hS13 ?_
 have hM17 := hM12.sub (sD sR)
 refine xn 12 s ?_
 refine xc 2 (1 < ((s.length : Nat) : Int)) (fun h19p => ?_) (fun h19p => ?_)
 ·
  refine xt 5 64 ((bl s 0) - (List.getD ([0, 0, 192, 224, 240] : List Int) (s.length) 0)) (64 * ((bl s 0) - (List.getD ([0, 0, 192, 224, 240] : List Int) (s.length) 0))) ?_
  have hb20 := bl_bd s 1
  refine xi 2 s 1 1 ?_ (hlt := by first | omega | (simp; omega))
  refine xcv 0 .u8 .i64 (bl s 1) (bl s 1) (IntWalk.i64_in _ (by omega)) ?_
  refine xa 0 (64 * ((bl s 0) - (List.getD ([0, 0, 192, 224, 240] : List Int) (s.length) 0))) (bl s 1) ((64 * ((bl s 0) - (List.getD ([0, 0, 192, 224, 240] : List Int) (s.length) 0))) + (bl s 1)) ?_
  refine xm 0 ((64 * ((bl s 0) - (List.getD ([0, 0, 192, 224, 240] : List Int) (s.length) 0))) + (bl s 1)) 128 (((64 * ((bl s 0) - (List.getD ([0, 0, 192, 224, 240] : List Int) (s.length) 0))) + (bl s 1)) - 128) ?_
  refine xn 14 s ?_
  refine xc 2 (2 < ((s.length : Nat) : Int)) (fun h27p => ?_) (fun h27p => ?_)
  ·
   refine xt 5 64 (((64 * ((bl s 0) - (List.getD ([0, 0, 192, 224, 240] : List Int) (s.length) 0))) + (bl s 1)) - 128) (64 * (((64 * ((bl s 0) - (List.getD ([0, 0, 192, 224, 240] : List Int) (s.length) 0))) + (bl s 1)) - 128)) ?_
   have hb28 := bl_bd s 2
   refine xi 2 s 2 2 ?_ (hlt := by first | omega | (simp; omega))
   refine xcv 0 .u8 .i64 (bl s 2) (bl s 2) (IntWalk.i64_in _ (by omega)) ?_
   refine xa 0 (64 * (((64 * ((bl s 0) - (List.getD ([0, 0, 192, 224, 240] : List Int) (s.length) 0))) + (bl s 1)) - 128)) (bl s 2) ((64 * (((64 * ((bl s 0) - (List.getD ([0, 0, 192, 224, 240] : List Int) (s.length) 0))) + (bl s 1)) - 128)) + (bl s 2)) ?_
   refine xm 0 ((64 * (((64 * ((bl s 0) - (List.getD ([0, 0, 192, 224, 240] : List Int) (s.length) 0))) + (bl s 1)) - 128)) + (bl s 2)) 128 (((64 * (((64 * ((bl s 0) - (List.getD ([0, 0, 192, 224, 240] : List Int) (s.length) 0))) + (bl s 1)) - 128)) + (bl s 2)) - 128) ?_
   refine xn 14 s ?_
   refine xc 2 (3 < ((s.length : Nat) : Int)) (fun h35p => ?_) (fun h35p => ?_)
   ·
    refine xt 5 64 (((64 * (((64 * ((bl s 0) - (List.getD ([0, 0, 192, 224, 240] : List Int) (s.length) 0))) + (bl s 1)) - 128)) + (bl s 2)) - 128) (64 * (((64 * (((64 * ((bl s 0) - (List.getD ([0, 0, 192, 224, 240] : List Int) (s.length) 0))) + (bl s 1)) - 128)) + (bl s 2)) - 128)) ?_
    have hb36 := bl_bd s 3
    refine xi 2 s 3 3 ?_ (hlt := by first | omega | (simp; omega))
    refine xcv 0 .u8 .i64 (bl s 3) (bl s 3) (IntWalk.i64_in _ (by omega)) ?_
    refine xa 0 (64 * (((64 * (((64 * ((bl s 0) - (List.getD ([0, 0, 192, 224, 240] : List Int) (s.length) 0))) + (bl s 1)) - 128)) + (bl s 2)) - 128)) (bl s 3) ((64 * (((64 * (((64 * ((bl s 0) - (List.getD ([0, 0, 192, 224, 240] : List Int) (s.length) 0))) + (bl s 1)) - 128)) + (bl s 2)) - 128)) + (bl s 3)) ?_
    refine xm 0 ((64 * (((64 * (((64 * ((bl s 0) - (List.getD ([0, 0, 192, 224, 240] : List Int) (s.length) 0))) + (bl s 1)) - 128)) + (bl s 2)) - 128)) + (bl s 3)) 128 (((64 * (((64 * (((64 * ((bl s 0) - (List.getD ([0, 0, 192, 224, 240] : List Int) (s.length) 0))) + (bl s 1)) - 128)) + (bl s 2)) - 128)) + (bl s 3)) - 128) ?_
    refine xn 14 s ?_
    refine xc 2 (4 < ((s.length : Nat) : Int)) (fun h43p => ?_) (fun h43p => ?_)
    ·
     have hz : 4 < ((s.length : Nat) : Int) := by assumption
     omega
    ·
     exact xr 6 (v := .int .i64 (((64 * (((64 * (((64 * ((bl s 0) - (List.getD ([0, 0, 192, 224, 240] : List Int) (s.length) 0))) + (bl s 1)) - 128)) + (bl s 2)) - 128)) + (bl s 3)) - 128)) Tryz.func125 hR ⟨ret_int (by unfold guessP leadP; rw [guessF_step (by omega), guessF_step (by omega), guessF_step (by omega), guessF_end (by omega)]), hM17⟩
   ·
    exact xr 6 (v := .int .i64 (((64 * (((64 * ((bl s 0) - (List.getD ([0, 0, 192, 224, 240] : List Int) (s.length) 0))) + (bl s 1)) - 128)) + (bl s 2)) - 128)) Tryz.func125 hR ⟨ret_int (by unfold guessP leadP; rw [guessF_step (by omega), guessF_step (by omega), guessF_end (by omega)]), hM17⟩
  ·
   exact xr 6 (v := .int .i64 (((64 * ((bl s 0) - (List.getD ([0, 0, 192, 224, 240] : List Int) (s.length) 0))) + (bl s 1)) - 128)) Tryz.func125 hR ⟨ret_int (by unfold guessP leadP; rw [guessF_step (by omega), guessF_end (by omega)]), hM17⟩
 ·
  exact xr 6 (v := .int .i64 ((bl s 0) - (List.getD ([0, 0, 192, 224, 240] : List Int) (s.length) 0))) Tryz.func125 hR ⟨ret_int (by unfold guessP leadP; rw [guessF_end (by omega)]), hM17⟩


end Go.Proofs.YthpodbngljfdmaaGreatDoor

namespace Go.Proofs.YthpodbngljfdmaaGreatDoor
open Go Go.Gw Go.UtfP Go.TokP Go.RowKit
set_option linter.unusedVariables false
set_option linter.unusedSimpArgs false
set_option maxRecDepth 20000

abbrev uUtfD0 : List Nat := [1,1,1,0,0,0]
set_option maxHeartbeats 400000 in
theorem decode_L (s : List UInt8) {w0 : World} (hs : s.length * 8 ≤ 140737488355328) (R : Ending → World → Prop) (hR : R = (fun e w' => ∃ v, e = .returned (.tuple #[v, .int .i64 (decE s)]) ∧ Mem [] w0 w' [⟨3, 1, v, (decL s).length, ivals .i64 (decL s)⟩])) : ∀ (N : Nat) (r : List UInt8) (l : List Int) (b : Value) (w : World) (hd : decF r.length l r = dec s) (hl : l.length + r.length ≤ s.length) (hM : Mem [] w0 w [⟨3, 1, b, (List.length l), (ivals .i64 l)⟩]) (hN : r.length < N), GoS Tryz.prog 82 R 25 [iC Tryz.f82 [1,1,0,0,0], iL Tryz.f82 [1,1,0,0,0], .inBlock 0, iC Tryz.f82 [1,1,1]] [(0, sS r), (4, b)] w := by
 intro N
 induction N with
 | zero => intro r l b w hd hl hM hN; exact absurd hN (Nat.not_lt_zero _)
 | succ N ih =>
  intro r l b w hd hl hM hN
  refine xs ?_
  refine xqn 4 r ([]) ?_
  refine xcn 1 (r = []) (fun h2p => ?_) (fun h2p => ?_)
  ·
   refine xka 5 (first_c r (by exact List.length_pos_iff.2 h2p) w) ?_
   have hb := firstP_n (s := r) (by exact List.length_pos_iff.2 h2p)
   refine xc 12 ((firstP r).2 = 0) (fun h3p => ?_) (fun h3p => ?_)
   ·
    have hM4 := hM.sub (sD sR)
    obtain ⟨e1, e2⟩ := dec_no hd h2p h3p
    exact xr 5 (v := .tuple #[.slice none 0 0, .int .i64 7]) Tryz.func82 hR ⟨_, by rw [e2], by rw [e1]; exact hM4.nilrow 3 1⟩
   ·
    refine xx 5 (m_lit sT70 hM (n := 1) (parts := #[(0, .int .i64 ((firstP r).1))]) (cs := [.int .i64 ((firstP r).1)]) (by decide) (by kernel_rfl) rfl) (fun v5 w6 hM8 => ?_)
    refine xx 0 (m_append sT70 hM8 1 rfl (hM8.rd 0 rfl) (oneL rfl) (by have hp := List.length_pos_iff.2 h2p; (try dsimp only); omega) (by have hp := List.length_pos_iff.2 h2p; (try dsimp only); omega) 70) (fun v9 w10 hM12 => ?_)
    have hM13 : Mem [] w0 w10 [⟨3, 1, v5, 1, [.int .i64 ((firstP r).1)]⟩, ⟨3, 1, v9, (List.length (l ++ ([(firstP r).1] : List Int))), (ivals .i64 (l ++ ([(firstP r).1] : List Int)))⟩] := hM12.cast (by simp [ivals, svals, bvals, nvals, u8s, Nat.add_assoc])
    refine xsl 5 r ((firstP r).2) (Int.toNat ((firstP r).2)) ?_
    have hM15 := hM13.sub (sD (sK sR))
    have hr : r ≠ [] := h2p
    have hp := List.length_pos_iff.2 hr
    exact xl 4 (ih (List.drop (Int.toNat (firstP r).2) r) (l ++ [(firstP r).1]) _ _ ((dec_step2 (n := Int.toNat (firstP r).2) hr (by omega) (by omega)).symm.trans hd) (by rw [List.length_append, List.length_drop, List.length_singleton]; omega) hM15 (by rw [List.length_drop]; omega))
  ·
   have h2 : (!(decide (r = []))) = false := by simpa using h2p
   obtain ⟨e1, e2⟩ := dec_yes hd (by simpa using h2)
   exact xr 7 (v := .tuple #[b, .int .i64 0]) Tryz.func82 hR ⟨_, by rw [e2], by rw [e1]; exact hM⟩

set_option maxHeartbeats 400000 in
theorem decode_c (s : List UInt8) (hs : s.length * 8 ≤ 140737488355328) (w : World) :
  Calls Tryz.prog 82 #[sS s] w (fun e w' => ∃ v, e = .returned (.tuple #[v, .int .i64 (decE s)]) ∧ Mem [] w w' [⟨3, 1, v, (decL s).length, ivals .i64 (decL s)⟩]) := by
 refine xe 25 Tryz.func82 (fun R hR => ?_)
 have hM0 := Mem.start w
 refine xx 7 (m_lit sT70 hM0 (n := 0) (parts := #[]) (cs := []) (by decide) (by kernel_rfl) rfl) (fun v1 w2 hM4 => ?_)
 exact xl 5 (decode_L s hs R hR (s.length + 1) s [] v1 w2 rfl (by simp) (hM4.cast (by simp [ivals])) (by omega))

set_option maxHeartbeats 400000 in
theorem rdecode_L2 (s : List UInt8) (l : List Int) {w0 : World} {a : Nat} (hs : s.length * 8 ≤ 140737488355328) (hl : l.length ≤ a) (hd : decF (s.drop a).length l (s.drop a) = dec s) (R : Ending → World → Prop) (hR : R = (fun e w' => ∃ v, e = .returned (.tuple #[v, .int .i64 (decE s)]) ∧ Mem [] w0 w' [⟨3, 1, v, (decL s).length, ivals .i64 (decL s)⟩])) : ∀ (N : Nat) (b : Value) (n : Nat) (w : World) (out : ∀ (a' : Nat) (l : List Int) (b : Value) (w : World), a < a' → a' ≤ s.length → l.length ≤ a' → decF (s.drop a').length l (s.drop a') = dec s → Mem [] w0 w [⟨3, 1, b, (List.length l), (ivals .i64 l)⟩] → GoS Tryz.prog 100 R 62 [iC Tryz.f100 uUtfD0, iL Tryz.f100 uUtfD0, .inBlock 0, iC Tryz.f100 [1,1,1,1]] [(0, sS s), (4, b), (5, iN a')] w) (ha : a < s.length) (hn : 1 ≤ n) (hn5 : n ≤ 5) (hno : ∀ m : Nat, 0 < m → m < n → m ≤ 4 → a + m ≤ s.length → (firstP (s.drop a)).2 ≠ (m : Int)) (hM : Mem [] w0 w [⟨3, 1, b, (List.length l), (ivals .i64 l)⟩]) (hN : 5 - n < N), GoS Tryz.prog 100 R 62 [iC Tryz.f100 [1,1,1,0,0,0,1,0,1,0,0,0], iL Tryz.f100 [1,1,1,0,0,0,1,0,1,0,0,0], .inBlock 2, iC Tryz.f100 [1,1,1,0,0,0,1,0,1,1], .inBlock 1, iL Tryz.f100 uUtfD0, .inBlock 0, iC Tryz.f100 [1,1,1,1]] [(0, sS s), (4, b), (5, iN a), (6, iN n)] w := by
 intro N
 induction N with
 | zero => intro b n w out ha hn hn5 hno hM hN; exact absurd hN (Nat.not_lt_zero _)
 | succ N ih =>
  intro b n w out ha hn hn5 hno hM hN
  refine xs ?_
  refine xfc 6 14 (((n : Nat) : Int) ≤ 4) (fun h1p => ?_) (fun h1p => ?_)
  ·
   refine xa 2 ((a : Nat) : Int) ((n : Nat) : Int) (((a + n) : Nat) : Int) ?_
   refine xn 1 s ?_
   refine xc 3 ((((a + n) : Nat) : Int) ≤ ((s.length : Nat) : Int)) (fun h4p => ?_) (fun h4p => ?_)
   ·
    refine xa 8 ((a : Nat) : Int) ((n : Nat) : Int) (((a + n) : Nat) : Int) ?_
    refine xsb 0 s ((a : Nat) : Int) (((a + n) : Nat) : Int) a (a + n) ?_ (hlt := by first | omega | (rw [List.length_drop, List.length_take]; omega)) (hab := by first | omega | (rw [List.length_drop, List.length_take]; omega))
    refine xk 0 (guess_c (List.drop a (List.take (a + n) s)) (by rw [List.length_drop, List.length_take]; omega) (by rw [List.length_drop, List.length_take]; omega) w) (fun w12 m13 => ?_)
    have hM14 := Mem.join hM m13
    refine xh 4 [] hM14 (sK sR) (fun w15 hM16 hS17 => ?_)
    refine yca [0] 1 (rwhole_c (guessP (List.drop a (List.take (a + n) s))) w15) hS17 ?_
    rcases Bool.eq_false_or_eq_true (whole (guessP (List.drop a (List.take (a + n) s)))) with h19 | h19
    ·
     have h19p : 0 ≤ (guessP (List.drop a (List.take (a + n) s))) ∧ (guessP (List.drop a (List.take (a + n) s))) ≤ 1114111 ∧ ((guessP (List.drop a (List.take (a + n) s))) < 55296 ∨ (guessP (List.drop a (List.take (a + n) s))) > 57343) := whole_iff.1 h19
     refine ye [] 2 (whole (guessP (List.drop a (List.take (a + n) s)))) true h19 hS17 ?_
     refine yv [3,5,6,7,8] 9 (fun W_ hW_ => (show (binOp .add 3 (iN a) (iN n)).run Tryz.prog W_ = .ok (iN (a + n)) W_ from f_add (by rw [show ((a : Nat) : Int) + ((n : Nat) : Int) = (((a + n) : Nat) : Int) by omega]; exact IntWalk.i64_in _ (by omega)))) hS17 ?_
     refine yv [] 10 (fun W_ hW_ => (show (Instr.sliceAt 9 (sS s) (some (iN a)) (some (iN (a + n))) none).run Tryz.prog W_ = .ok (sS (List.drop a (List.take (a + n) s))) W_ from f_slice_lohi a (a + n) (by kernel_rfl) (by omega) (by omega) (by first | omega | (rw [List.length_drop, List.length_take]; omega)) (by first | omega | (rw [List.length_drop, List.length_take]; omega)))) hS17 ?_
     refine yck [] 4 (one_c (guessP (List.drop a (List.take (a + n) s))) h19 w15) hS17 (fun w20 m21 => ?_)
     have hM22 := Mem.join hM16 m21
     have hS23 := hM22.sub (sK sR)
     refine ⟨hS23, ?_⟩
     refine yv [] 11 (fun W_ hW_ => (show (binOp .eql 9 (sS (bytesOf (one (guessP (List.drop a (List.take (a + n) s)))))) (sS (List.drop a (List.take (a + n) s)))).run Tryz.prog W_ = .ok (.bool (decide ((bytesOf (one (guessP (List.drop a (List.take (a + n) s))))) = (List.drop a (List.take (a + n) s))))) W_ from f_streq)) hS23 ?_
     refine ydp [12] hS23 ?_
     refine xc 0 ((bytesOf (one (guessP (List.drop a (List.take (a + n) s))))) = (List.drop a (List.take (a + n) s))) (fun h24p => ?_) (fun h24p => ?_)
     ·
      have h24 : (decide ((bytesOf (one (guessP (List.drop a (List.take (a + n) s))))) = (List.drop a (List.take (a + n) s)))) = true := decide_eq_true h24p
      refine xx 4 (m_lit sT70 hM22 (n := 1) (parts := #[(0, .int .i64 (guessP (List.drop a (List.take (a + n) s))))]) (cs := [.int .i64 (guessP (List.drop a (List.take (a + n) s)))]) (by decide) (by kernel_rfl) rfl) (fun v25 w26 hM28 => ?_)
      refine xx 0 (m_append sT70 hM28 1 rfl (hM28.rd 0 rfl) (oneL rfl) (by (try dsimp only); omega) (by (try dsimp only); omega) 70) (fun v29 w30 hM32 => ?_)
      have hM33 : Mem [] w0 w30 [⟨3, 1, v25, 1, [.int .i64 (guessP (List.drop a (List.take (a + n) s)))]⟩, ⟨3, 1, v29, (List.length (l ++ ([(guessP (List.drop a (List.take (a + n) s)))] : List Int))), (ivals .i64 (l ++ ([(guessP (List.drop a (List.take (a + n) s)))] : List Int)))⟩] := hM32.cast (by first | (simp [ivals, svals, bvals, nvals, u8s, Nat.add_assoc]; done) | (simp [ivals, svals, bvals, nvals, u8s, Nat.add_assoc]; omega))
      have hM34 := hM33.sub (sD (sK sR))
      refine xfc 9 50 (((n : Nat) : Int) > 4) (fun h35p => ?_) (fun h35p => ?_)
      ·
       have h35 : (decide (((n : Nat) : Int) > 4)) = true := decide_eq_true h35p
       have hz : ((n : Nat) : Int) > 4 := of_decide_eq_true h35
       omega
      ·
       refine xa 2 ((a : Nat) : Int) ((n : Nat) : Int) (((a + n) : Nat) : Int) ?_
       refine xn 1 s ?_
       refine xc 3 ((((a + n) : Nat) : Int) > ((s.length : Nat) : Int)) (fun h38p => ?_) (fun h38p => ?_)
       ·
        have h38 : (decide ((((a + n) : Nat) : Int) > ((s.length : Nat) : Int))) = true := decide_eq_true h38p
        have hz : (((a + n) : Nat) : Int) > ((s.length : Nat) : Int) := of_decide_eq_true h38
        omega
       ·
        refine xa 4 ((a : Nat) : Int) ((n : Nat) : Int) (((a + n) : Nat) : Int) ?_
        refine xl 4 (k := [iC Tryz.f100 uUtfD0, iL Tryz.f100 uUtfD0, .inBlock 0, iC Tryz.f100 [1,1,1,1]]) (l := [(0, sS s), (4, v29), (5, iN (a + n))]) ?_
        have ht : (List.drop a (List.take (a + n) s)) = (s.drop a).take n := by rw [List.drop_take]; congr 1; omega
        have e := guess_fits ht (by omega) h19 (of_decide_eq_true h24)
        have hne : s.drop a ≠ [] := by intro e3; have := congrArg List.length e3; rw [List.length_drop] at this; simp at this; omega
        refine out (a + n) _ _ _ (by omega) (by omega) (by rw [List.length_append, List.length_singleton]; omega) ?_ hM34
        rw [← hd, dec_step hne e (by omega), List.drop_drop]
     ·
      have h24 : (decide ((bytesOf (one (guessP (List.drop a (List.take (a + n) s))))) = (List.drop a (List.take (a + n) s)))) = false := decide_eq_false h24p
      refine xa 3 ((n : Nat) : Int) 1 (((n + 1) : Nat) : Int) ?_
      have ht : (List.drop a (List.take (a + n) s)) = (s.drop a).take n := by rw [List.drop_take]; congr 1; omega
      exact xl 4 (ih b (n + 1) _ out ha (by omega) (by omega) (fun m q1 q2 q3 q4 => by rcases Nat.lt_succ_iff_lt_or_eq.1 q2 with h | h; exact hno m q1 h q3 q4; subst h; exact guess_no ht (by omega) (by omega) (.inr (of_decide_eq_false h24))) hM22 (by omega))
    ·
     refine ye [] 2 (whole (guessP (List.drop a (List.take (a + n) s)))) false h19 hS17 ?_
     refine ydp [3,4,5,6,7,8,9,10,11,12] hS17 ?_
     refine xa 4 ((n : Nat) : Int) 1 (((n + 1) : Nat) : Int) ?_
     have ht : (List.drop a (List.take (a + n) s)) = (s.drop a).take n := by rw [List.drop_take]; congr 1; omega
     exact xl 4 (ih b (n + 1) _ out ha (by omega) (by omega) (fun m q1 q2 q3 q4 => by rcases Nat.lt_succ_iff_lt_or_eq.1 q2 with h | h; exact hno m q1 h q3 q4; subst h; exact guess_no ht (by omega) (by omega) (.inl h19)) hM16 (by omega))
   ·
    refine xfc 7 50 (((n : Nat) : Int) > 4) (fun h5p => ?_) (fun h5p => ?_)
    ·
     have h5 : (decide (((n : Nat) : Int) > 4)) = true := decide_eq_true h5p
     have hz : ((n : Nat) : Int) > 4 := of_decide_eq_true h5
     omega
    ·
     refine xa 2 ((a : Nat) : Int) ((n : Nat) : Int) (((a + n) : Nat) : Int) ?_
     refine xn 1 s ?_
     refine xc 3 ((((a + n) : Nat) : Int) > ((s.length : Nat) : Int)) (fun h8p => ?_) (fun h8p => ?_)
     ·
      have hM9 := hM.sub (sD sR)
      have e := first_none ha (by omega) hno
      obtain ⟨e1, e2⟩ := dec_no hd (by intro e3; have := congrArg List.length e3; rw [List.length_drop] at this; simp at this; omega) e
      exact xr 5 (v := .tuple #[.slice none 0 0, .int .i64 7]) Tryz.func100 hR ⟨_, by rw [e2], by rw [e1]; exact hM9.nilrow 3 1⟩
     ·
      have h8 : (decide ((((a + n) : Nat) : Int) > ((s.length : Nat) : Int))) = false := decide_eq_false h8p
      have hz : ¬ ((((a + n) : Nat) : Int) > ((s.length : Nat) : Int)) := of_decide_eq_false h8
      omega
  ·
   refine xfc 16 50 (((n : Nat) : Int) > 4) (fun h42p => ?_) (fun h42p => ?_)
   ·
    have hM43 := hM.sub (sD sR)
    have e := first_none ha (by omega) hno
    obtain ⟨e1, e2⟩ := dec_no hd (by intro e3; have := congrArg List.length e3; rw [List.length_drop] at this; simp at this; omega) e
    exact xr 14 (v := .tuple #[.slice none 0 0, .int .i64 7]) Tryz.func100 hR ⟨_, by rw [e2], by rw [e1]; exact hM43.nilrow 3 1⟩
   ·
    have h42 : (decide (((n : Nat) : Int) > 4)) = false := decide_eq_false h42p
    have hz : ¬ (((n : Nat) : Int) > 4) := of_decide_eq_false h42
    omega

set_option maxHeartbeats 400000 in
theorem rdecode_L (s : List UInt8) {w0 : World} (hs : s.length * 8 ≤ 140737488355328) (R : Ending → World → Prop) (hR : R = (fun e w' => ∃ v, e = .returned (.tuple #[v, .int .i64 (decE s)]) ∧ Mem [] w0 w' [⟨3, 1, v, (decL s).length, ivals .i64 (decL s)⟩])) : ∀ (N : Nat) (a : Nat) (l : List Int) (b : Value) (w : World) (ha : a ≤ s.length) (hl : l.length ≤ a) (hd : decF (s.drop a).length l (s.drop a) = dec s) (hM : Mem [] w0 w [⟨3, 1, b, (List.length l), (ivals .i64 l)⟩]) (hN : s.length - a < N), GoS Tryz.prog 100 R 62 [iC Tryz.f100 uUtfD0, iL Tryz.f100 uUtfD0, .inBlock 0, iC Tryz.f100 [1,1,1,1]] [(0, sS s), (4, b), (5, iN a)] w := by
 intro N
 induction N with
 | zero => intro a l b w ha hl hd hM hN; exact absurd hN (Nat.not_lt_zero _)
 | succ N ih =>
  intro a l b w ha hl hd hM hN
  refine xs ?_
  refine xn 5 s ?_
  refine xc 2 (((a : Nat) : Int) < ((s.length : Nat) : Int)) (fun h2p => ?_) (fun h2p => ?_)
  ·
   exact xl 9 (rdecode_L2 s l hs hl hd R hR 6 _ 1 w (fun a' l b w q1 q2 q3 q4 q5 => ih a' l b w q2 q3 q4 q5 (by omega)) (by omega) (by omega) (by omega) (by intro m q1 q2; omega) hM (by omega))
  ·
   obtain ⟨e1, e2⟩ := dec_yes hd (List.drop_eq_nil_of_le (by omega))
   exact xr 7 (v := .tuple #[b, .int .i64 0]) Tryz.func100 hR ⟨_, by rw [e2], by rw [e1]; exact hM⟩

set_option maxHeartbeats 400000 in
theorem rdecode_c (s : List UInt8) (hs : s.length * 8 ≤ 140737488355328) (w : World) :
  Calls Tryz.prog 100 #[sS s] w (fun e w' => ∃ v, e = .returned (.tuple #[v, .int .i64 (decE s)]) ∧ Mem [] w w' [⟨3, 1, v, (decL s).length, ivals .i64 (decL s)⟩]) := by
 refine xe 62 Tryz.func100 (fun R hR => ?_)
 have hM0 := Mem.start w
 exact xl 16 (rdecode_L s hs R hR (s.length + 1) 0 [] _ w (by omega) (by simp) rfl (hM0.nilrow 3 1) (by omega))


end Go.Proofs.YthpodbngljfdmaaGreatDoor

namespace Go.Proofs.YthpodbngljfdmaaGreatDoor
open Go Go.Gw Go.UtfP Go.TokP Go.RowKit
set_option linter.unusedVariables false
set_option linter.unusedSimpArgs false
set_option maxRecDepth 20000


set_option maxHeartbeats 400000 in
theorem among_L (c : Int) (v : Value) (l : List Int) {w : World} (hv : Rd w 1 v l.length (ivals .i64 l)) (hev : l.length % 2 = 0) (hlen : l.length ≤ 1000) (R : Ending → World → Prop) (hR : R = (fun e w' => e = .returned (.bool (among c l)) ∧ w = w')) : ∀ (N : Nat) (i : Nat) (hi : i % 2 = 0) (hk : i ≤ l.length) (ha : among c l = among c (l.drop i)) (hN : l.length - i < N), GoS Tryz.prog 128 R 27 [iC Tryz.f128 [1,0,1,0,0], iL Tryz.f128 [1,0,1,0,0], .inBlock 0, iC Tryz.f128 [1,1]] [(0, .int .i64 c), (1, v), (5, iN i)] w := by
 intro N
 induction N with
 | zero => intro i hi hk ha hN; exact absurd hN (Nat.not_lt_zero _)
 | succ N ih =>
  intro i hi hk ha hN
  refine xs ?_
  refine xv 5 (f_slen sT70 hv 3 w) ?_
  refine xc 2 (((i : Nat) : Int) < (((List.length l) : Nat) : Int)) (fun h2p => ?_) (fun h2p => ?_)
  ·
   refine xat 8 sT70 hv ((i : Nat) : Int) i (fun p3 hp4 => ?_)
   refine xv 0 (at_load pE3 hv hp4 (ivals_at (by first | omega | (dsimp only; omega)))) ?_
   refine xfc 2 18 (c ≥ (List.getD l i 0)) (fun h8p => ?_) (fun h8p => ?_)
   ·
    have h8 : (decide (c ≥ (List.getD l i 0))) = true := decide_eq_true h8p
    refine xa 3 ((i : Nat) : Int) 1 (((i + 1) : Nat) : Int) ?_
    refine xat 0 sT70 hv (((i + 1) : Nat) : Int) (i + 1) (fun p9 hp10 => ?_)
    refine xv 0 (at_load pE3 hv hp10 (ivals_at (by first | omega | (dsimp only; omega)))) ?_
    refine xc 3 (c ≤ (List.getD l (i + 1) 0)) (fun h15p => ?_) (fun h15p => ?_)
    ·
     have h15 : (decide (c ≤ (List.getD l (i + 1) 0))) = true := decide_eq_true h15p
     exact xr 4 (v := .bool true) Tryz.func128 hR ⟨ret_bool (by rw [ha, among_step (by omega)]; simp only [h8, h15, Bool.true_and, Bool.true_or]), rfl⟩
    ·
     have h15 : (decide (c ≤ (List.getD l (i + 1) 0))) = false := decide_eq_false h15p
     refine xa 4 ((i : Nat) : Int) 2 (((i + 2) : Nat) : Int) ?_
     exact xl 3 (ih (i + 2) (by omega) (by omega) (by rw [ha, among_step (by omega)]; simp only [h8, h15, Bool.true_and, Bool.false_and, Bool.and_false, Bool.false_or]) (by omega))
   ·
    have h8 : (decide (c ≥ (List.getD l i 0))) = false := decide_eq_false h8p
    refine xa 14 ((i : Nat) : Int) 2 (((i + 2) : Nat) : Int) ?_
    exact xl 3 (ih (i + 2) (by omega) (by omega) (by rw [ha, among_step (by omega)]; simp only [h8, Bool.true_and, Bool.false_and, Bool.and_false, Bool.false_or]) (by omega))
  ·
   exact xr 5 (v := .bool false) Tryz.func128 hR ⟨ret_bool (by rw [ha, List.drop_eq_nil_of_le (by omega)]; rfl), rfl⟩

set_option maxHeartbeats 400000 in
theorem among_c (c : Int) (v : Value) (l : List Int) (w : World) (hv : Rd w 1 v l.length (ivals .i64 l)) (hev : l.length % 2 = 0) (hlen : l.length ≤ 1000) :
  Calls Tryz.prog 128 #[.int .i64 c, v] w (fun e w' => e = .returned (.bool (among c l)) ∧ w = w') := by
 refine xe 27 Tryz.func128 (fun R hR => ?_)
 exact xl 11 (among_L c v l hv hev hlen R hR (l.length + 1) 0 (by omega) (by omega) rfl (by omega))

set_option maxHeartbeats 400000 in
theorem rletter_c (c : Int) (w : World) :
  Calls Tryz.prog 101 #[.int .i64 c] w (fun e w' => e = .returned (.bool (letter c)) ∧ Mem [] w w' []) := by
 refine xe 6 Tryz.func101 (fun R hR => ?_)
 have hM0 := Mem.start w
 refine xx 7 (m_lit sT70 hM0 (n := 20) (parts := #[(0, .int .i64 97), (1, .int .i64 122), (2, .int .i64 65), (3, .int .i64 90), (4, .int .i64 48), (5, .int .i64 57), (6, .int .i64 192), (7, .int .i64 214), (8, .int .i64 216), (9, .int .i64 246), (10, .int .i64 248), (11, .int .i64 591), (12, .int .i64 880), (13, .int .i64 893), (14, .int .i64 895), (15, .int .i64 1153), (16, .int .i64 1155), (17, .int .i64 1327), (18, .int .i64 19968), (19, .int .i64 40959)]) (cs := [.int .i64 97, .int .i64 122, .int .i64 65, .int .i64 90, .int .i64 48, .int .i64 57, .int .i64 192, .int .i64 214, .int .i64 216, .int .i64 246, .int .i64 248, .int .i64 591, .int .i64 880, .int .i64 893, .int .i64 895, .int .i64 1153, .int .i64 1155, .int .i64 1327, .int .i64 19968, .int .i64 40959]) (by decide) (by kernel_rfl) rfl) (fun v1 w2 hM4 => ?_)
 refine xka 0 (among_c c v1 ([97, 122, 65, 90, 48, 57, 192, 214, 216, 246, 248, 591, 880, 893, 895, 1153, 1155, 1327, 19968, 40959] : List Int) w2 (hM4.rd 0 rfl) (by decide) (by decide)) ?_
 have hM5 := hM4.sub (sD sR)
 exact xr 2 (v := .bool (among c ([97, 122, 65, 90, 48, 57, 192, 214, 216, 246, 248, 591, 880, 893, 895, 1153, 1155, 1327, 19968, 40959] : List Int))) Tryz.func101 hR ⟨ret_bool (among_letter c), hM5⟩

set_option maxHeartbeats 400000 in
theorem rfold_c (c : Int) (w : World) :
  Calls Tryz.prog 103 #[.int .i64 c] w (fun e w' => e = .returned (.int .i64 (fold c)) ∧ Mem [] w w' []) := by
 refine xe 19 Tryz.func103 (fun R hR => ?_)
 have hM0 := Mem.start w
 refine xx 8 (m_lit sT70 hM0 (n := 12) (parts := #[(0, .int .i64 65), (1, .int .i64 90), (2, .int .i64 192), (3, .int .i64 214), (4, .int .i64 216), (5, .int .i64 222), (6, .int .i64 913), (7, .int .i64 929), (8, .int .i64 931), (9, .int .i64 937), (10, .int .i64 1040), (11, .int .i64 1071)]) (cs := [.int .i64 65, .int .i64 90, .int .i64 192, .int .i64 214, .int .i64 216, .int .i64 222, .int .i64 913, .int .i64 929, .int .i64 931, .int .i64 937, .int .i64 1040, .int .i64 1071]) (by decide) (by kernel_rfl) rfl) (fun v1 w2 hM4 => ?_)
 refine xka 0 (among_c c v1 ([65, 90, 192, 214, 216, 222, 913, 929, 931, 937, 1040, 1071] : List Int) w2 (hM4.rd 0 rfl) (by decide) (by decide)) ?_
 have hM5 := hM4.sub (sD sR)
 refine xb 1 (among c ([65, 90, 192, 214, 216, 222, 913, 929, 931, 937, 1040, 1071] : List Int)) (fun h6 => ?_) (fun h6 => ?_)
 ·
  have h6p : UpP c := (among_up c).1 h6
  refine xadd 3 .i64 c 32 (c + 32) (IntWalk.i64_in _ (by (first | omega | (unfold UpP at *; omega)))) ?_
  exact xr 2 (v := .int .i64 (c + 32)) Tryz.func103 hR ⟨ret_int (by rw [fold, if_pos h6p]), hM5⟩
 ·
  have h6p : ¬ UpP c := (among_up_no c) h6
  refine xfc 7 10 (c ≥ 1024) (fun h8p => ?_) (fun h8p => ?_)
  ·
   refine xc 4 (c ≤ 1039) (fun h9p => ?_) (fun h9p => ?_)
   ·
    refine xadd 3 .i64 c 80 (c + 80) (IntWalk.i64_in _ (by (first | omega | (unfold UpP at *; omega)))) ?_
    exact xr 2 (v := .int .i64 (c + 80)) Tryz.func103 hR ⟨ret_int (by rw [fold, if_neg h6p]; (repeat' split) <;> omega), hM5⟩
   ·
    refine xc 7 (c = 962) (fun h11p => ?_) (fun h11p => ?_)
    ·
     exact xr 4 (v := .int .i64 963) Tryz.func103 hR ⟨ret_int (by rw [fold, if_neg h6p]; (repeat' split) <;> omega), hM5⟩
    ·
     exact xr 6 (v := .int .i64 c) Tryz.func103 hR ⟨ret_int (by rw [fold, if_neg h6p]; (repeat' split) <;> omega), hM5⟩
  ·
   refine xc 12 (c = 962) (fun h12p => ?_) (fun h12p => ?_)
   ·
    exact xr 4 (v := .int .i64 963) Tryz.func103 hR ⟨ret_int (by rw [fold, if_neg h6p]; (repeat' split) <;> omega), hM5⟩
   ·
    exact xr 6 (v := .int .i64 c) Tryz.func103 hR ⟨ret_int (by rw [fold, if_neg h6p]; (repeat' split) <;> omega), hM5⟩


end Go.Proofs.YthpodbngljfdmaaGreatDoor

namespace Go.Proofs.YthpodbngljfdmaaGreatDoor
open Go Go.Gw Go.UtfP Go.TokP Go.RowKit
set_option linter.unusedVariables false
set_option linter.unusedSimpArgs false
set_option maxRecDepth 20000
theorem sT79 : SliceT Tryz.prog 79 124 2 24 (.agg #[.string (sb ([])), .int .i64 0]) := ⟨by kernel_rfl, ⟨_, rfl, by kernel_rfl, by kernel_rfl, by kernel_rfl⟩, rfl, by decide⟩


set_option maxHeartbeats 400000 in
theorem tokens_L (s : List UInt8) {w0 : World} (h4 : ¬ 4096 < s.length) (hd : decE s = 0) (R : Ending → World → Prop) (hR : R = (fun e w' => ∃ v, e = .returned (.tuple #[v, .int .i64 (tokE s)]) ∧ Mem [] w0 w' [⟨124, 2, v, (List.length (tokL s)), (recs tokc (tokL s))⟩])) : ∀ (N : Nat) (vw vo vm : Value) (wd : List Int) (ws : List (List Int)) (k : Nat) (w : World) (hk : k ≤ (decL s ++ [32]).length) (hwl : wd.length ≤ k) (hw : words (decL s) = ws ++ wordsG wd ((decL s ++ [32]).drop k)) (hf : fits ws = true) (hal : allW wd = true) (hM : Mem [] w0 w [⟨3, 1, vw, (List.length wd), (ivals .i64 wd)⟩, ⟨124, 2, vo, (List.length (toks ws)), (recs tokc (toks ws))⟩, ⟨3, 1, vm, (List.length (decL s ++ [32])), (ivals .i64 (decL s ++ [32]))⟩]) (hN : (decL s ++ [32]).length - k < N), GoS Tryz.prog 59 R 62 [iC Tryz.f59 [1,1,1,1,1,1,0,1,0,0], iL Tryz.f59 [1,1,1,1,1,1,0,1,0,0], .inBlock 0, iC Tryz.f59 [1,1,1,1,1,1,1]] [(6, vo), (7, vw), (27, vm), (28, iN (List.length (decL s ++ [32]))), (29, iN k)] w := by
 intro N
 induction N with
 | zero => intro vw vo vm wd ws k w hk hwl hw hf hal hM hN; exact absurd hN (Nat.not_lt_zero _)
 | succ N ih =>
  intro vw vo vm wd ws k w hk hwl hw hf hal hM hN
  have hq := @decL_len s
  have hml : (decL s ++ [32]).length = (decL s).length + 1 := by simp
  have hws := words_count hw
  have htk := toks_len ws
  refine xs ?_
  refine xc 5 (((k : Nat) : Int) < (((List.length (decL s ++ [32])) : Nat) : Int)) (fun h1p => ?_) (fun h1p => ?_)
  ·
   refine xat 5 sT70 (hM.rd 2 rfl) ((k : Nat) : Int) k (fun p3 hp4 => ?_) (hj := (by first | omega | ((try dsimp only); omega)))
   refine xv 0 (at_load pE3 (hM.rd 2 rfl) hp4 (ivals_at (by first | omega | ((try dsimp only); omega)))) ?_
   refine xka 6 (letter_c (List.getD (decL s ++ [32]) k 0) w) ?_
   refine xb 1 (letter (List.getD (decL s ++ [32]) k 0)) (fun h8 => ?_) (fun h8 => ?_)
   ·
    refine xka 4 (fold_c (List.getD (decL s ++ [32]) k 0) w) ?_
    refine xx 0 (m_lit sT70 hM (n := 1) (parts := #[(0, .int .i64 (fold (List.getD (decL s ++ [32]) k 0)))]) (cs := [.int .i64 (fold (List.getD (decL s ++ [32]) k 0))]) (by decide) (by kernel_rfl) rfl) (fun v9 w10 hM12 => ?_)
    refine xx 0 (m_append sT70 hM12 1 rfl (hM12.rd 0 rfl) (oneL rfl) (by first | omega | ((try dsimp only); omega) | ((try dsimp only); rw [List.length_append] at *; simp at *; omega) | ((try dsimp only); rw [toks_len]; omega)) (by first | omega | ((try dsimp only); omega) | ((try dsimp only); rw [List.length_append] at *; simp at *; omega) | ((try dsimp only); rw [toks_len]; omega)) 70) (fun v13 w14 hM16 => ?_)
    have hM17 : Mem [] w0 w14 [⟨3, 1, v9, 1, [.int .i64 (fold (List.getD (decL s ++ [32]) k 0))]⟩, ⟨3, 1, v13, (List.length (wd ++ ([(fold (List.getD (decL s ++ [32]) k 0))] : List Int))), (ivals .i64 (wd ++ ([(fold (List.getD (decL s ++ [32]) k 0))] : List Int)))⟩, ⟨124, 2, vo, (List.length (toks ws)), (recs tokc (toks ws))⟩, ⟨3, 1, vm, (List.length (decL s ++ [32])), (ivals .i64 (decL s ++ [32]))⟩] := hM16.cast (by simp [ivals, svals, bvals, nvals, u8s, Nat.add_assoc])
    refine xa 4 ((k : Nat) : Int) 1 (((k + 1) : Nat) : Int) ?_
    have hM19 := hM17.sub (sD (sK (sK (sK sR))))
    exact xl 3 (ih v13 vo vm (wd ++ [fold (List.getD (decL s ++ [32]) k 0)]) ws (k + 1) _ (by omega) (by rw [List.length_append, List.length_singleton]; omega) (by rw [hw, words_letter (by omega) h8]) hf (allW_snoc hal h8) (hM19.cast (by simp)) (by omega))
   ·
    refine xv 5 (f_slen sT70 (hM.rd 0 rfl) 3 w) ?_
    refine xc 2 ((((List.length wd) : Nat) : Int) = 0) (fun h21p => ?_) (fun h21p => ?_)
    ·
     refine xa 2 ((k : Nat) : Int) 1 (((k + 1) : Nat) : Int) ?_
     obtain rfl : wd = [] := List.eq_nil_of_length_eq_zero (by omega)
     exact xl 3 (ih vw vo vm [] ws (k + 1) _ (by omega) (by simp) (by rw [hw, words_blank (by omega) h8]) hf hal hM (by omega))
    ·
     have h21 : ((((List.length wd) : Nat) : Int) == 0) = false := by simpa using h21p
     refine xk 4 (encode_c vw wd w (hM.rd 0 rfl) (by first | omega | ((try dsimp only); omega))) (fun w23 m24 => ?_)
     have hM25 := Mem.join hM m24
     refine xn 10 (encT wd) ?_
     refine xc 2 ((((encT wd).length : Nat) : Int) > 64) (fun h27p => ?_) (fun h27p => ?_)
     ·
      have hM28 := hM25.sub (sD (sD (sD sR)))
      obtain ⟨e1, e2⟩ := tok_no h4 hd (by rw [hw, words_end (by omega) h8 (ne_of_len h21)]; exact fits_no (by rw [← encT_of hal]; omega))
      exact xr 5 (v := .tuple #[.slice none 0 0, .int .i64 4]) Tryz.func59 hR ⟨_, by rw [e2], by rw [e1]; exact hM28.nilrow 124 2⟩
     ·
      refine xv 6 (f_slen sT79 (hM25.rd 1 rfl) 3 w23) ?_
      refine xx 1 (m_lit sT79 hM25 (n := 1) (parts := #[(0, .agg #[sS (encT wd), iN (List.length (toks ws))])]) (cs := [sS (encT wd), iN (List.length (toks ws))]) (by decide) (by kernel_rfl) rfl) (fun v29 w30 hM32 => ?_)
      refine xx 0 (m_append sT79 hM32 2 rfl (hM32.rd 0 rfl) (oneL rfl) (by first | omega | ((try dsimp only); omega) | ((try dsimp only); rw [List.length_append] at *; simp at *; omega) | ((try dsimp only); rw [toks_len]; omega)) (by first | omega | ((try dsimp only); omega) | ((try dsimp only); rw [List.length_append] at *; simp at *; omega) | ((try dsimp only); rw [toks_len]; omega)) 79) (fun v33 w34 hM36 => ?_)
      have hM37 : Mem [] w0 w34 [⟨124, 2, v29, 1, [sS (encT wd), iN (List.length (toks ws))]⟩, ⟨3, 1, vw, (List.length wd), (ivals .i64 wd)⟩, ⟨124, 2, v33, (List.length ((toks ws) ++ ([(Tok.mk (encT wd) (((List.length (toks ws)) : Nat) : Int))] : List Tok))), (recs tokc ((toks ws) ++ ([(Tok.mk (encT wd) (((List.length (toks ws)) : Nat) : Int))] : List Tok)))⟩, ⟨3, 1, vm, (List.length (decL s ++ [32])), (ivals .i64 (decL s ++ [32]))⟩] := hM36.cast (by simp [ivals, svals, bvals, nvals, u8s, Nat.add_assoc, recs, tokc])
      have hM38 : Mem [] w0 w34 [⟨124, 2, v29, 1, [sS (encT wd), iN (List.length (toks ws))]⟩, ⟨3, 1, (cut vw 0), 0, (ivals .i64 ([] : List Int))⟩, ⟨124, 2, v33, (List.length ((toks ws) ++ ([(Tok.mk (encT wd) (((List.length (toks ws)) : Nat) : Int))] : List Tok))), (recs tokc ((toks ws) ++ ([(Tok.mk (encT wd) (((List.length (toks ws)) : Nat) : Int))] : List Tok)))⟩, ⟨3, 1, vm, (List.length (decL s ++ [32])), (ivals .i64 (decL s ++ [32]))⟩] := (Mem.cutrow hM37 1 rfl 0 (by first | omega | ((try dsimp only); omega))).cast (by simp [ivals, nvals, u8s, svals, bvals, List.map_take])
      refine xv 4 (show (Instr.sliceAt 70 (vw) none (some (.int .i64 0)) none).run Tryz.prog w34 = .ok (cut vw 0) w34 from f_cut0 sT70 (hM37.rd 1 rfl) 0 (by omega) (by first | omega | ((try dsimp only); omega)) _ _) ?_
      refine xa 4 ((k : Nat) : Int) 1 (((k + 1) : Nat) : Int) ?_
      have hM42 := hM38.sub (sD (sK (sK (sK sR))))
      have hwl : termB wd = encT wd := (encT_of hal).symm
      exact xl 3 (ih (cut vw 0) v33 vm [] (ws ++ [wd]) (k + 1) _ (by omega) (by simp) (by rw [hw, words_end (by omega) h8 (ne_of_len h21), List.append_assoc]; rfl) (fits_snoc hf (by rw [hwl]; omega)) rfl (hM42.cast (by rw [toks_snoc, hwl]; simp [toks_len])) (by omega))
  ·
   have hM2 := hM.sub (sD (sK (sD sR)))
   have e0 : words (decL s) = ws := by rw [hw, List.drop_of_length_le (by omega)]; simp [wordsG]
   obtain ⟨e1, e2⟩ := tok_yes h4 hd e0 hf
   exact xr 7 (v := .tuple #[vo, .int .i64 0]) Tryz.func59 hR ⟨_, by rw [e2], by rw [e1]; exact hM2⟩

set_option maxHeartbeats 400000 in
theorem tokens_c (s : List UInt8) (w : World) :
  Calls Tryz.prog 59 #[sS s] w (fun e w' => ∃ v, e = .returned (.tuple #[v, .int .i64 (tokE s)]) ∧ Mem [] w w' [⟨124, 2, v, (List.length (tokL s)), (recs tokc (tokL s))⟩]) := by
 have hq := @decL_len s
 refine xe 62 Tryz.func59 (fun R hR => ?_)
 have hM0 := Mem.start w
 refine xn 9 s ?_
 refine xc 2 (((s.length : Nat) : Int) > 4096) (fun h2p => ?_) (fun h2p => ?_)
 ·
  obtain ⟨e1, e2⟩ := tok_long (s := s) (by omega)
  exact xr 5 (v := .tuple #[.slice none 0 0, .int .i64 4]) Tryz.func59 hR ⟨_, by rw [e2], by rw [e1]; exact hM0.nilrow 124 2⟩
 ·
  refine xkv 4 (decode_c s (by first | omega | ((try dsimp only); omega)) w) (fun v6 w3 m4 => ?_)
  have hM5 := Mem.join hM0 m4
  refine xcn 12 ((decE s) = 0) (fun h7p => ?_) (fun h7p => ?_)
  ·
   have h7 : ((decE s) != 0) = true := by simpa using h7p
   have hM8 := hM5.sub (sD sR)
   obtain ⟨e1, e2⟩ := tok_bad (s := s) (by omega) (bne_iff_ne.1 h7)
   exact xr 6 (v := .tuple #[.slice none 0 0, .int .i64 (decE s)]) Tryz.func59 hR ⟨_, by rw [e2], by rw [e1]; exact hM8.nilrow 124 2⟩
  ·
   have h7 : ((decE s) != 0) = false := by simpa using h7p
   refine xx 3 (m_lit sT79 hM5 (n := 0) (parts := #[]) (cs := []) (by decide) (by kernel_rfl) rfl) (fun v9 w10 hM12 => ?_)
   refine xx 4 (m_lit sT70 hM12 (n := 0) (parts := #[]) (cs := []) (by decide) (by kernel_rfl) rfl) (fun v13 w14 hM16 => ?_)
   refine xx 6 (m_lit sT70 hM16 (n := 1) (parts := #[(0, .int .i64 32)]) (cs := [.int .i64 32]) (by decide) (by kernel_rfl) rfl) (fun v17 w18 hM20 => ?_)
   refine xx 0 (m_append sT70 hM20 3 rfl (hM20.rd 0 rfl) (oneL rfl) (by first | omega | ((try dsimp only); omega) | ((try dsimp only); rw [List.length_append] at *; simp at *; omega) | ((try dsimp only); rw [toks_len]; omega)) (by first | omega | ((try dsimp only); omega) | ((try dsimp only); rw [List.length_append] at *; simp at *; omega) | ((try dsimp only); rw [toks_len]; omega)) 70) (fun v21 w22 hM24 => ?_)
   have hM25 : Mem [] w w22 [⟨3, 1, v17, 1, [.int .i64 32]⟩, ⟨3, 1, v13, 0, []⟩, ⟨124, 2, v9, 0, []⟩, ⟨3, 1, v21, (List.length ((decL s) ++ ([32] : List Int))), (ivals .i64 ((decL s) ++ ([32] : List Int)))⟩] := hM24.cast (by simp [ivals, svals, bvals, nvals, u8s, Nat.add_assoc])
   refine xv 0 (f_slen sT70 (hM25.rd 3 rfl) 3 w22) ?_
   have hM27 := hM25.sub (sD (sK (sK (sK sR))))
   have hq := @decL_len s
   exact xl 4 (tokens_L s (by omega) (p_eq h7) R hR ((decL s ++ [32]).length + 1) v13 v9 v21 [] [] 0 w22 (by omega) (by simp) (by rw [List.nil_append]; rfl) rfl rfl (hM27.cast (by simp [ivals, toks, toksF, recs])) (by omega))


end Go.Proofs.YthpodbngljfdmaaGreatDoor

namespace Go.Proofs.YthpodbngljfdmaaGreatDoor
open Go Go.Gw Go.UtfP Go.TokP Go.RowKit
set_option linter.unusedVariables false
set_option linter.unusedSimpArgs false
set_option maxRecDepth 20000
theorem pE9 : Plain Tryz.prog 9 := ⟨.string, by kernel_rfl, (fun _ h => by cases h), (fun _ _ h => by cases h)⟩


set_option maxHeartbeats 400000 in
theorem term_c (s : List UInt8) (w : World) :
  Calls Tryz.prog 58 #[sS s] w (fun e w' => e = .returned (.tuple #[sS (termS s), .int .i64 (termE s)]) ∧ Mem [] w w' []) := by
 refine xe 23 Tryz.func58 (fun R hR => ?_)
 have hM0 := Mem.start w
 refine xkv 8 (tokens_c s w) (fun v4 w1 m2 => ?_)
 have hM3 := Mem.join hM0 m2
 refine xcn 14 ((tokE s) = 0) (fun h5p => ?_) (fun h5p => ?_)
 ·
  have h5 : ((tokE s) != 0) = true := by simpa using h5p
  have hM6 := hM3.sub (sD sR)
  obtain ⟨e1, e2⟩ := term_bad (s := s) (bne_iff_ne.1 h5)
  exact xr 6 (v := .tuple #[sS ([]), .int .i64 (tokE s)]) Tryz.func58 hR ⟨ret_str2 e1.symm e2.symm, hM6⟩
 ·
  have h5 : ((tokE s) != 0) = false := by simpa using h5p
  refine xv 3 (f_slen sT79 (hM3.rd 0 rfl) 3 w1) ?_
  refine xcn 3 ((((List.length (tokL s)) : Nat) : Int) = 1) (fun h8p => ?_) (fun h8p => ?_)
  ·
   have hM9 := hM3.sub (sD sR)
   obtain ⟨e1, e2⟩ := term_many (s := s) (p_eq h5) (by omega)
   exact xr 5 (v := .tuple #[sS ([]), .int .i64 20]) Tryz.func58 hR ⟨ret_str2 e1.symm e2.symm, hM9⟩
  ·
   refine xat 5 sT79 (hM3.rd 0 rfl) 0 0 (fun p10 hp11 => ?_)
   refine xv 1 (c_load pE9 (hM3.rd 0 rfl) (Cel.add (At.cel hp11) 0) (recs_at (i := 0) tokc_len (Tok.mk [] 0) (by first | omega | (dsimp only; omega)) rfl)) ?_
   have hM15 := hM3.sub (sD sR)
   obtain ⟨e1, e2⟩ := term_one (s := s) (p_eq h5) (by omega)
   exact xr 3 (v := .tuple #[sS ((List.getD (tokL s) 0 (Tok.mk [] 0)).t), .int .i64 0]) Tryz.func58 hR ⟨ret_str2 e1.symm e2.symm, hM15⟩

set_option maxHeartbeats 400000 in
theorem folded_L (s : List UInt8) {w0 : World} (hd : (decE s != 0) = false) (R : Ending → World → Prop) (hR : R = (fun e w' => ∃ v, e = .returned (.tuple #[v, .int .i64 (decE s)]) ∧ Mem [] w0 w' [⟨3, 1, v, (List.length (foldL s)), (ivals .i64 (foldL s))⟩])) : ∀ (N : Nat) (b : Value) (k : Nat) (w : World) (hk : k ≤ (decL s).length) (hM : Mem [] w0 w [⟨3, 1, b, (List.length (foldK k (decL s))), (ivals .i64 (foldK k (decL s)))⟩]) (hN : (decL s).length - k < N), GoS Tryz.prog 86 R 30 [iC Tryz.f86 [1,1,1,0,1,0,0], iL Tryz.f86 [1,1,1,0,1,0,0], .inBlock 0, iC Tryz.f86 [1,1,1,1]] [(4, b), (16, b), (17, iN ((decL s).length)), (18, iN k)] w := by
 intro N
 induction N with
 | zero => intro b k w hk hM hN; exact absurd hN (Nat.not_lt_zero _)
 | succ N ih =>
  intro b k w hk hM hN
  have hlen := rd_len (hM.rd 0 rfl)
  simp only [maxLen, foldK_len] at hlen
  refine xs ?_
  refine xc 5 (((k : Nat) : Int) < (((decL s).length : Nat) : Int)) (fun h1p => ?_) (fun h1p => ?_)
  ·
   refine xat 6 sT70 (hM.rd 0 rfl) ((k : Nat) : Int) k (fun p2 hp3 => ?_) (hj := (by first | omega | (simp only [foldK_len]; omega)))
   refine xv 0 (at_load pE3 (hM.rd 0 rfl) hp3 (ivals_at (by first | omega | (simp only [foldK_len]; omega)))) ?_
   refine xka 7 (fold_c (List.getD (foldK k (decL s)) k 0) w) ?_
   refine xat 0 sT70 (hM.rd 0 rfl) ((k : Nat) : Int) k (fun p7 hp8 => ?_) (hj := (by first | omega | (simp only [foldK_len]; omega)))
   refine xst 0 (at_store (u := .int .i64 (fold (List.getD (foldK k (decL s)) k 0))) (by kernel_rfl) hM 0 rfl hp8 (by first | omega | (simp only [foldK_len]; omega)) rfl rfl) (fun w10 hM12 => ?_)
   have hM13 : Mem [] w0 w10 [⟨3, 1, b, (List.length (foldK k (decL s))), (ivals .i64 (List.set (foldK k (decL s)) k (fold (List.getD (foldK k (decL s)) k 0))))⟩] := hM12.cast (by simp [ivals, svals, bvals, nvals, u8s, List.map_set])
   refine xa 3 ((k : Nat) : Int) 1 (((k + 1) : Nat) : Int) ?_
   exact xl 3 (ih b (k + 1) _ (by omega) (hM13.cast (by rw [foldK_get (by omega), foldK_set (by omega)]; simp only [foldK_len])) (by omega))
  ·
   have e1 : foldK k (decL s) = foldL s := foldK_all (by rw [foldK_len] at *; omega)
   exact xr 7 (v := .tuple #[b, .int .i64 0]) Tryz.func86 hR ⟨_, by rw [p_eq hd], by rw [← e1]; exact hM⟩

set_option maxHeartbeats 400000 in
theorem folded_c (s : List UInt8) (hs : s.length * 8 ≤ 140737488355328) (w : World) :
  Calls Tryz.prog 86 #[sS s] w (fun e w' => ∃ v, e = .returned (.tuple #[v, .int .i64 (decE s)]) ∧ Mem [] w w' [⟨3, 1, v, (List.length (foldL s)), (ivals .i64 (foldL s))⟩]) := by
 refine xe 30 Tryz.func86 (fun R hR => ?_)
 have hM0 := Mem.start w
 refine xkv 8 (decode_c s (by exact hs) w) (fun v4 w1 m2 => ?_)
 have hM3 := Mem.join hM0 m2
 refine xcn 12 ((decE s) = 0) (fun h5p => ?_) (fun h5p => ?_)
 ·
  have h5 : ((decE s) != 0) = true := by simpa using h5p
  have hM6 := hM3.sub (sD sR)
  have e1 : foldL s = [] := by unfold foldL; rw [dec_none h5]; rfl
  exact xr 6 (v := .tuple #[.slice none 0 0, .int .i64 (decE s)]) Tryz.func86 hR ⟨_, rfl, by rw [e1]; exact hM6.nilrow 3 1⟩
 ·
  have h5 : ((decE s) != 0) = false := by simpa using h5p
  refine xv 5 (f_slen sT70 (hM3.rd 0 rfl) 3 w1) ?_
  exact xl 4 (folded_L s h5 R hR ((decL s).length + 1) v4 0 w1 (by omega) (hM3.cast (by simp [foldK_zero])) (by omega))


end Go.Proofs.YthpodbngljfdmaaGreatDoor

namespace Go.Proofs.YthpodbngljfdmaaGreatDoor
open Go Go.Gw Go.UtfP Go.TokP Go.RowKit
set_option linter.unusedVariables false
set_option linter.unusedSimpArgs false
set_option maxRecDepth 20000

abbrev uTokC0 : List Nat := [1,1,1,1,1,0,1,0,0]
set_option maxHeartbeats 400000 in
theorem rtok_L2 (s : List UInt8) {w0 : World} (h4 : ¬ 4096 < s.length) (hd : decE s = 0) (vl vo : Value) (ws : List (List Int)) (i : Nat) (hi : i < (decL s).length) (h0 : letter ((decL s).getD i 0) = true) (hb : bef (decL s) i = false) (hw : words (decL s) = ws ++ restG (bef (decL s) i) ((decL s).drop i)) (hf : fits ws = true) (R : Ending → World → Prop) (hR : R = (fun e w' => ∃ v, e = .returned (.tuple #[v, .int .i64 (tokE s)]) ∧ Mem [] w0 w' [⟨124, 2, v, (List.length (tokL s)), (recs tokc (tokL s))⟩])) : ∀ (N : Nat) (k : Nat) (w : World) (out : ∀ (vo : Value) (ws : List (List Int)) (i' : Nat) (w : World), i < i' → i' ≤ (decL s).length → words (decL s) = ws ++ restG (bef (decL s) i') ((decL s).drop i') → fits ws = true → Mem [] w0 w [⟨124, 2, vo, (List.length (toks ws)), (recs tokc (toks ws))⟩, ⟨3, 1, vl, (List.length (decL s)), (ivals .i64 (decL s))⟩] → GoS Tryz.prog 75 R 85 [iC Tryz.f75 uTokC0, iL Tryz.f75 uTokC0, .inBlock 0, iC Tryz.f75 [1,1,1,1,1,1]] [(4, vl), (6, vo), (7, iN i')] w) (hik : i ≤ k) (hk : k ≤ (decL s).length) (ha : ∀ j, i ≤ j → j < k → letter ((decL s).getD j 0) = true) (hM : Mem [] w0 w [⟨124, 2, vo, (List.length (toks ws)), (recs tokc (toks ws))⟩, ⟨3, 1, vl, (List.length (decL s)), (ivals .i64 (decL s))⟩]) (hN : (decL s).length - k < N), GoS Tryz.prog 75 R 85 [iC Tryz.f75 [1,1,1,1,1,0,1,0,0,1,0,0,1,1,0,1,0,0], iL Tryz.f75 [1,1,1,1,1,0,1,0,0,1,0,0,1,1,0,1,0,0], .inBlock 2, iC Tryz.f75 [1,1,1,1,1,0,1,0,0,1,0,0,1,1,1], .inBlock 1, iC Tryz.f75 [1,1,1,1,1,0,1,0,0,1,1], iL Tryz.f75 uTokC0, .inBlock 0, iC Tryz.f75 [1,1,1,1,1,1]] [(4, vl), (6, vo), (7, iN i), (8, sS (termB (List.map fold (List.take (k - i) (List.drop i (decL s)))))), (9, iN k)] w := by
 intro N
 induction N with
 | zero => intro k w out hik hk ha hM hN; exact absurd hN (Nat.not_lt_zero _)
 | succ N ih =>
  intro k w out hik hk ha hM hN
  have hq := @decL_len s
  have hws := words_count hw
  have htk := toks_len ws
  have htl := termB_len (List.map fold (List.take (k - i) (List.drop i (decL s))))
  rw [List.length_map, List.length_take, List.length_drop] at htl
  refine xs ?_
  refine xv 5 (f_slen sT70 (hM.rd 1 rfl) 3 w) ?_
  refine xfc 2 52 (((k : Nat) : Int) < (((List.length (decL s)) : Nat) : Int)) (fun h2p => ?_) (fun h2p => ?_)
  ·
   refine xat 2 sT70 (hM.rd 1 rfl) ((k : Nat) : Int) k (fun p3 hp4 => ?_)
   refine xv 0 (at_load pE3 (hM.rd 1 rfl) hp4 (ivals_at (by first | omega | (dsimp only; omega)))) ?_
   refine xk 0 (rletter_c (List.getD (decL s) k 0) w) (fun w8 m9 => ?_)
   have hM10 := Mem.join hM m9
   refine xb 2 (letter (List.getD (decL s) k 0)) (fun h11 => ?_) (fun h11 => ?_)
   ·
    refine xat 7 sT70 (hM10.rd 1 rfl) ((k : Nat) : Int) k (fun p27 hp28 => ?_)
    refine xv 0 (at_load pE3 (hM10.rd 1 rfl) hp28 (ivals_at (by first | omega | (dsimp only; omega)))) ?_
    refine xk 0 (rfold_c (List.getD (decL s) k 0) w8) (fun w32 m33 => ?_)
    have hM34 := Mem.join hM10 m33
    refine xx 0 (m_lit sT70 hM34 (n := 1) (parts := #[(0, .int .i64 (fold (List.getD (decL s) k 0)))]) (cs := [.int .i64 (fold (List.getD (decL s) k 0))]) (by decide) (by kernel_rfl) rfl) (fun v35 w36 hM38 => ?_)
    refine xk 0 (rencode_c v35 ([(fold (List.getD (decL s) k 0))] : List Int) w36 (hM38.rd 0 rfl) (by first | omega | (simp; done))) (fun w39 m40 => ?_)
    have hM41 := Mem.join hM38 m40
    refine xqa 9 (termB (List.map fold (List.take (k - i) (List.drop i (decL s))))) (encT ([(fold (List.getD (decL s) k 0))] : List Int)) ?_ (hl := (by (have q1 := encT_len [fold (List.getD (decL s) k 0)]; simp only [List.length_cons, List.length_nil] at q1; omega)))
    refine xa 5 ((k : Nat) : Int) 1 (((k + 1) : Nat) : Int) ?_
    have hM44 := hM41.sub (sD (sK (sK sR)))
    exact xl 3 (l := [(4, vl), (6, vo), (7, iN i), (8, sS ((termB (List.map fold (List.take (k - i) (List.drop i (decL s))))) ++ (encT ([(fold (List.getD (decL s) k 0))] : List Int)))), (9, iN (k + 1))]) (GoS.cast (by rw [termB_part hik (by omega) h11]) (ih (k + 1) _ out (by omega) (by omega) (fun j q1 q2 => by rcases Nat.lt_succ_iff_lt_or_eq.1 q2 with h | h; exact ha j q1 h; subst h; exact h11) hM44 (by omega)))
   ·
    refine xn 5 (termB (List.map fold (List.take (k - i) (List.drop i (decL s))))) ?_
    refine xc 2 ((((termB (List.map fold (List.take (k - i) (List.drop i (decL s))))).length : Nat) : Int) > 64) (fun h13p => ?_) (fun h13p => ?_)
    ·
     have hM14 := hM10.sub (sD (sD sR))
     obtain ⟨e1, e2⟩ := tok_no h4 hd (by rw [hw, rest_word hik hk hi hb ha h0 (.inr h11)]; exact fits_no (by omega))
     exact xr 5 (v := .tuple #[.slice none 0 0, .int .i64 4]) Tryz.func75 hR ⟨_, by rw [e2], by rw [e1]; exact hM14.nilrow 124 2⟩
    ·
     refine xv 5 (f_slen sT79 (hM10.rd 0 rfl) 3 w8) ?_
     refine xx 1 (m_lit sT79 hM10 (n := 1) (parts := #[(0, .agg #[sS (termB (List.map fold (List.take (k - i) (List.drop i (decL s))))), iN (List.length (toks ws))])]) (cs := [sS (termB (List.map fold (List.take (k - i) (List.drop i (decL s))))), iN (List.length (toks ws))]) (by decide) (by kernel_rfl) rfl) (fun v15 w16 hM18 => ?_)
     refine xx 0 (m_append sT79 hM18 1 rfl (hM18.rd 0 rfl) (oneL rfl) (by first | omega | ((try dsimp only); rw [toks_len]; omega)) (by first | omega | ((try dsimp only); rw [toks_len]; omega)) 79) (fun v19 w20 hM22 => ?_)
     have hM23 : Mem [] w0 w20 [⟨124, 2, v15, 1, [sS (termB (List.map fold (List.take (k - i) (List.drop i (decL s))))), iN (List.length (toks ws))]⟩, ⟨124, 2, v19, (List.length ((toks ws) ++ ([(Tok.mk (termB (List.map fold (List.take (k - i) (List.drop i (decL s))))) (((List.length (toks ws)) : Nat) : Int))] : List Tok))), (recs tokc ((toks ws) ++ ([(Tok.mk (termB (List.map fold (List.take (k - i) (List.drop i (decL s))))) (((List.length (toks ws)) : Nat) : Int))] : List Tok)))⟩, ⟨3, 1, vl, (List.length (decL s)), (ivals .i64 (decL s))⟩] := hM22.cast (by first | (simp [ivals, svals, bvals, nvals, u8s, Nat.add_assoc, recs, tokc]; done) | (simp [ivals, svals, bvals, nvals, u8s, Nat.add_assoc, recs, tokc]; omega))
     refine xa 5 ((i : Nat) : Int) 1 (((i + 1) : Nat) : Int) ?_
     have hM26 := hM23.sub (sD (sK (sK sR)))
     refine xl 3 (k := [iC Tryz.f75 uTokC0, iL Tryz.f75 uTokC0, .inBlock 0, iC Tryz.f75 [1,1,1,1,1,1]]) (l := [(4, vl), (6, v19), (7, iN (i + 1))]) ?_
     refine out _ (ws ++ [(List.map fold (List.take (k - i) (List.drop i (decL s))))]) (i + 1) _ (by omega) (by omega) ?_ (fits_snoc hf (by omega)) (hM26.cast (by rw [toks_snoc]; simp [toks_len]))
     rw [hw, rest_word hik hk hi hb ha h0 (.inr h11), List.append_assoc]; rfl
  ·
   refine xn 13 (termB (List.map fold (List.take (k - i) (List.drop i (decL s))))) ?_
   refine xc 2 ((((termB (List.map fold (List.take (k - i) (List.drop i (decL s))))).length : Nat) : Int) > 64) (fun h46p => ?_) (fun h46p => ?_)
   ·
    have hM47 := hM.sub (sD (sD sR))
    obtain ⟨e1, e2⟩ := tok_no h4 hd (by rw [hw, rest_word hik hk hi hb ha h0 (.inl (by omega))]; exact fits_no (by omega))
    exact xr 5 (v := .tuple #[.slice none 0 0, .int .i64 4]) Tryz.func75 hR ⟨_, by rw [e2], by rw [e1]; exact hM47.nilrow 124 2⟩
   ·
    refine xv 5 (f_slen sT79 (hM.rd 0 rfl) 3 w) ?_
    refine xx 1 (m_lit sT79 hM (n := 1) (parts := #[(0, .agg #[sS (termB (List.map fold (List.take (k - i) (List.drop i (decL s))))), iN (List.length (toks ws))])]) (cs := [sS (termB (List.map fold (List.take (k - i) (List.drop i (decL s))))), iN (List.length (toks ws))]) (by decide) (by kernel_rfl) rfl) (fun v48 w49 hM51 => ?_)
    refine xx 0 (m_append sT79 hM51 1 rfl (hM51.rd 0 rfl) (oneL rfl) (by first | omega | ((try dsimp only); rw [toks_len]; omega)) (by first | omega | ((try dsimp only); rw [toks_len]; omega)) 79) (fun v52 w53 hM55 => ?_)
    have hM56 : Mem [] w0 w53 [⟨124, 2, v48, 1, [sS (termB (List.map fold (List.take (k - i) (List.drop i (decL s))))), iN (List.length (toks ws))]⟩, ⟨124, 2, v52, (List.length ((toks ws) ++ ([(Tok.mk (termB (List.map fold (List.take (k - i) (List.drop i (decL s))))) (((List.length (toks ws)) : Nat) : Int))] : List Tok))), (recs tokc ((toks ws) ++ ([(Tok.mk (termB (List.map fold (List.take (k - i) (List.drop i (decL s))))) (((List.length (toks ws)) : Nat) : Int))] : List Tok)))⟩, ⟨3, 1, vl, (List.length (decL s)), (ivals .i64 (decL s))⟩] := hM55.cast (by first | (simp [ivals, svals, bvals, nvals, u8s, Nat.add_assoc, recs, tokc]; done) | (simp [ivals, svals, bvals, nvals, u8s, Nat.add_assoc, recs, tokc]; omega))
    refine xa 5 ((i : Nat) : Int) 1 (((i + 1) : Nat) : Int) ?_
    have hM59 := hM56.sub (sD (sK (sK sR)))
    refine xl 3 (k := [iC Tryz.f75 uTokC0, iL Tryz.f75 uTokC0, .inBlock 0, iC Tryz.f75 [1,1,1,1,1,1]]) (l := [(4, vl), (6, v52), (7, iN (i + 1))]) ?_
    refine out _ (ws ++ [(List.map fold (List.take (k - i) (List.drop i (decL s))))]) (i + 1) _ (by omega) (by omega) ?_ (fits_snoc hf (by omega)) (hM59.cast (by rw [toks_snoc]; simp [toks_len]))
    rw [hw, rest_word hik hk hi hb ha h0 (.inl (by omega)), List.append_assoc]; rfl

set_option maxHeartbeats 400000 in
theorem rtok_L (s : List UInt8) {w0 : World} (h4 : ¬ 4096 < s.length) (hd : decE s = 0) (vl : Value) (R : Ending → World → Prop) (hR : R = (fun e w' => ∃ v, e = .returned (.tuple #[v, .int .i64 (tokE s)]) ∧ Mem [] w0 w' [⟨124, 2, v, (List.length (tokL s)), (recs tokc (tokL s))⟩])) : ∀ (N : Nat) (vo : Value) (ws : List (List Int)) (i : Nat) (w : World) (hi : i ≤ (decL s).length) (hw : words (decL s) = ws ++ restG (bef (decL s) i) ((decL s).drop i)) (hf : fits ws = true) (hM : Mem [] w0 w [⟨124, 2, vo, (List.length (toks ws)), (recs tokc (toks ws))⟩, ⟨3, 1, vl, (List.length (decL s)), (ivals .i64 (decL s))⟩]) (hN : (decL s).length - i < N), GoS Tryz.prog 75 R 85 [iC Tryz.f75 uTokC0, iL Tryz.f75 uTokC0, .inBlock 0, iC Tryz.f75 [1,1,1,1,1,1]] [(4, vl), (6, vo), (7, iN i)] w := by
 intro N
 induction N with
 | zero => intro vo ws i w hi hw hf hM hN; exact absurd hN (Nat.not_lt_zero _)
 | succ N ih =>
  intro vo ws i w hi hw hf hM hN
  have hq := @decL_len s
  have hws := words_count hw
  have htk := toks_len ws
  refine xs ?_
  refine xv 5 (f_slen sT70 (hM.rd 1 rfl) 3 w) ?_
  refine xc 2 (((i : Nat) : Int) < (((List.length (decL s)) : Nat) : Int)) (fun h2p => ?_) (fun h2p => ?_)
  ·
   refine xat 8 sT70 (hM.rd 1 rfl) ((i : Nat) : Int) i (fun p4 hp5 => ?_) (hj := (by first | omega | ((try dsimp only); omega)))
   refine xv 0 (at_load pE3 (hM.rd 1 rfl) hp5 (ivals_at (by first | omega | ((try dsimp only); omega)))) ?_
   refine xk 0 (rletter_c (List.getD (decL s) i 0) w) (fun w9 m10 => ?_)
   have hM11 := Mem.join hM m10
   refine xf 2 35 (!(letter (List.getD (decL s) i 0))) (fun h12 => ?_) (fun h12 => ?_)
   ·
    refine xa 16 ((i : Nat) : Int) 1 (((i + 1) : Nat) : Int) ?_
    exact xl 3 (ih vo ws (i + 1) _ (by omega) (by rw [hw, rest_step (by omega) (.inl (p_nf h12))]) hf hM11 (by omega))
   ·
    refine xfc 3 38 (((i : Nat) : Int) > 0) (fun h13p => ?_) (fun h13p => ?_)
    ·
     refine xm 2 ((i : Nat) : Int) 1 (((i : Nat) : Int) - 1) ?_
     refine xat 0 sT70 (hM11.rd 1 rfl) (((i : Nat) : Int) - 1) (Int.toNat (((i : Nat) : Int) - 1)) (fun p14 hp15 => ?_) (hj := (by first | omega | ((try dsimp only); omega)))
     refine xv 0 (at_load pE3 (hM11.rd 1 rfl) hp15 (ivals_at (by first | omega | ((try dsimp only); omega)))) ?_
     refine xk 0 (rletter_c (List.getD (decL s) (Int.toNat (((i : Nat) : Int) - 1)) 0) w9) (fun w20 m21 => ?_)
     have hM22 := Mem.join hM11 m21
     refine xb 3 (letter (List.getD (decL s) (Int.toNat (((i : Nat) : Int) - 1)) 0)) (fun h24 => ?_) (fun h24 => ?_)
     ·
      refine xa 3 ((i : Nat) : Int) 1 (((i + 1) : Nat) : Int) ?_
      exact xl 3 (ih vo ws (i + 1) _ (by omega) (by rw [hw, rest_step (by omega) (.inr (by unfold bef; rw [if_neg (by omega)]; simpa using h24))]) hf hM22 (by omega))
     ·
      refine xl 13 (l := [(4, vl), (6, vo), (7, iN i), (8, sS ([])), (9, iN i)]) (GoS.cast (by rw [Nat.sub_self, List.take_zero]; rfl) (rtok_L2 s h4 hd vl vo ws i (by omega) (p_nt h12) (by unfold bef; rw [if_neg (by omega)]; simpa using h24) hw hf R hR ((decL s).length + 1) i w20 (fun vo ws i' w q1 q2 q3 q4 q5 => ih vo ws i' w q2 q3 q4 q5 (by omega)) (by omega) (by omega) (by intro j q1 q2; omega) hM22 (by omega)))
    ·
     refine xl 23 (l := [(4, vl), (6, vo), (7, iN i), (8, sS ([])), (9, iN i)]) (GoS.cast (by rw [Nat.sub_self, List.take_zero]; rfl) (rtok_L2 s h4 hd vl vo ws i (by omega) (p_nt h12) (by unfold bef; rw [if_pos (by omega)]) hw hf R hR ((decL s).length + 1) i w9 (fun vo ws i' w q1 q2 q3 q4 q5 => ih vo ws i' w q2 q3 q4 q5 (by omega)) (by omega) (by omega) (by intro j q1 q2; omega) hM11 (by omega)))
  ·
   have hM3 := hM.sub (sK (sD sR))
   have e0 : words (decL s) = ws := by rw [hw, List.drop_of_length_le (by omega), restG_nil, List.append_nil]
   obtain ⟨e1, e2⟩ := tok_yes h4 hd e0 hf
   exact xr 7 (v := .tuple #[vo, .int .i64 0]) Tryz.func75 hR ⟨_, by rw [e2], by rw [e1]; exact hM3⟩

set_option maxHeartbeats 400000 in
theorem rtokens_c (s : List UInt8) (w : World) :
  Calls Tryz.prog 75 #[sS s] w (fun e w' => ∃ v, e = .returned (.tuple #[v, .int .i64 (tokE s)]) ∧ Mem [] w w' [⟨124, 2, v, (List.length (tokL s)), (recs tokc (tokL s))⟩]) := by
 have hq := @decL_len s
 refine xe 85 Tryz.func75 (fun R hR => ?_)
 have hM0 := Mem.start w
 refine xn 9 s ?_
 refine xc 2 (((s.length : Nat) : Int) > 4096) (fun h2p => ?_) (fun h2p => ?_)
 ·
  obtain ⟨e1, e2⟩ := tok_long (s := s) (by omega)
  exact xr 5 (v := .tuple #[.slice none 0 0, .int .i64 4]) Tryz.func75 hR ⟨_, by rw [e2], by rw [e1]; exact hM0.nilrow 124 2⟩
 ·
  refine xkv 4 (rdecode_c s (by first | omega | (simp; done)) w) (fun v6 w3 m4 => ?_)
  have hM5 := Mem.join hM0 m4
  refine xcn 12 ((decE s) = 0) (fun h7p => ?_) (fun h7p => ?_)
  ·
   have h7 : ((decE s) != 0) = true := by simpa using h7p
   have hM8 := hM5.sub (sD sR)
   obtain ⟨e1, e2⟩ := tok_bad (s := s) (by omega) (bne_iff_ne.1 h7)
   exact xr 6 (v := .tuple #[.slice none 0 0, .int .i64 (decE s)]) Tryz.func75 hR ⟨_, by rw [e2], by rw [e1]; exact hM8.nilrow 124 2⟩
  ·
   have h7 : ((decE s) != 0) = false := by simpa using h7p
   have hq := @decL_len s
   have hM9 := hM5.nilrow 124 2
   exact xl 12 (rtok_L s (by omega) (p_eq h7) v6 R hR ((decL s).length + 1) (.slice none 0 0) [] 0 w3 (by omega) rfl rfl (hM9.cast (by simp [toks, toksF, recs])) (by omega))


end Go.Proofs.YthpodbngljfdmaaGreatDoor

namespace Go.Proofs.YthpodbngljfdmaaGreatDoor
open Go Go.Gw Go.UtfP Go.TokP Go.RowKit
set_option linter.unusedVariables false
set_option linter.unusedSimpArgs false
set_option maxRecDepth 20000


set_option maxHeartbeats 400000 in
theorem rterm_c (s : List UInt8) (w : World) :
  Calls Tryz.prog 73 #[sS s] w (fun e w' => e = .returned (.tuple #[sS (termS s), .int .i64 (termE s)]) ∧ Mem [] w w' []) := by
 refine xe 21 Tryz.func73 (fun R hR => ?_)
 have hM0 := Mem.start w
 refine xkv 8 (rtokens_c s w) (fun v4 w1 m2 => ?_)
 have hM3 := Mem.join hM0 m2
 refine xcn 12 ((tokE s) = 0) (fun h5p => ?_) (fun h5p => ?_)
 ·
  have h5 : ((tokE s) != 0) = true := by simpa using h5p
  have hM6 := hM3.sub (sD sR)
  obtain ⟨e1, e2⟩ := term_bad (s := s) (bne_iff_ne.1 h5)
  exact xr 6 (v := .tuple #[sS ([]), .int .i64 (tokE s)]) Tryz.func73 hR ⟨ret_str2 e1.symm e2.symm, hM6⟩
 ·
  have h5 : ((tokE s) != 0) = false := by simpa using h5p
  refine xv 5 (f_slen sT79 (hM3.rd 0 rfl) 3 w1) ?_
  refine xcn 2 ((((List.length (tokL s)) : Nat) : Int) = 1) (fun h8p => ?_) (fun h8p => ?_)
  ·
   have hM9 := hM3.sub (sD sR)
   obtain ⟨e1, e2⟩ := term_many (s := s) (p_eq h5) (by omega)
   exact xr 5 (v := .tuple #[sS ([]), .int .i64 20]) Tryz.func73 hR ⟨ret_str2 e1.symm e2.symm, hM9⟩
  ·
   refine xat 4 sT79 (hM3.rd 0 rfl) 0 0 (fun p10 hp11 => ?_)
   refine xv 1 (c_load pE9 (hM3.rd 0 rfl) (Cel.add (At.cel hp11) 0) (recs_at (i := 0) tokc_len (Tok.mk [] 0) (by first | omega | (dsimp only; omega)) rfl)) ?_
   have hM15 := hM3.sub (sD sR)
   obtain ⟨e1, e2⟩ := term_one (s := s) (p_eq h5) (by omega)
   exact xr 3 (v := .tuple #[sS ((List.getD (tokL s) 0 (Tok.mk [] 0)).t), .int .i64 0]) Tryz.func73 hR ⟨ret_str2 e1.symm e2.symm, hM15⟩

set_option maxHeartbeats 400000 in
theorem rfolded_L (s : List UInt8) {w0 : World} (hs : s.length * 8 ≤ 140737488355328) (vl : Value) (R : Ending → World → Prop) (hR : R = (fun e w' => ∃ v, e = .returned (.tuple #[v, .int .i64 (decE s)]) ∧ Mem [] w0 w' [⟨3, 1, v, (List.length (foldL s)), (ivals .i64 (foldL s))⟩])) : ∀ (N : Nat) (vo : Value) (k : Nat) (w : World) (hk : k ≤ (decL s).length) (hM : Mem [] w0 w [⟨3, 1, vo, (List.length (List.map fold (List.take k (decL s)))), (ivals .i64 (List.map fold (List.take k (decL s))))⟩, ⟨3, 1, vl, (List.length (decL s)), (ivals .i64 (decL s))⟩]) (hN : (decL s).length - k < N), GoS Tryz.prog 124 R 29 [iC Tryz.f124 [1,1,1,0,1,0,0], iL Tryz.f124 [1,1,1,0,1,0,0], .inBlock 0, iC Tryz.f124 [1,1,1,1]] [(4, vl), (5, .int .i64 (decE s)), (6, vo), (7, iN k)] w := by
 intro N
 induction N with
 | zero => intro vo k w hk hM hN; exact absurd hN (Nat.not_lt_zero _)
 | succ N ih =>
  intro vo k w hk hM hN
  have hq := @decL_len s
  refine xs ?_
  refine xv 5 (f_slen sT70 (hM.rd 1 rfl) 3 w) ?_
  refine xc 2 (((k : Nat) : Int) < (((List.length (decL s)) : Nat) : Int)) (fun h2p => ?_) (fun h2p => ?_)
  ·
   refine xat 7 sT70 (hM.rd 1 rfl) ((k : Nat) : Int) k (fun p4 hp5 => ?_)
   refine xv 0 (at_load pE3 (hM.rd 1 rfl) hp5 (ivals_at (by first | omega | (dsimp only; omega)))) ?_
   refine xk 0 (rfold_c (List.getD (decL s) k 0) w) (fun w9 m10 => ?_)
   have hM11 := Mem.join hM m10
   refine xx 0 (m_lit sT70 hM11 (n := 1) (parts := #[(0, .int .i64 (fold (List.getD (decL s) k 0)))]) (cs := [.int .i64 (fold (List.getD (decL s) k 0))]) (by decide) (by kernel_rfl) rfl) (fun v12 w13 hM15 => ?_)
   refine xx 0 (m_append sT70 hM15 1 rfl (hM15.rd 0 rfl) (oneL rfl) (by (try dsimp only); rw [List.length_map, List.length_take]; omega) (by (try dsimp only); rw [List.length_map, List.length_take]; omega) 70) (fun v16 w17 hM19 => ?_)
   have hM20 : Mem [] w0 w17 [⟨3, 1, v12, 1, [.int .i64 (fold (List.getD (decL s) k 0))]⟩, ⟨3, 1, v16, (List.length ((List.map fold (List.take k (decL s))) ++ ([(fold (List.getD (decL s) k 0))] : List Int))), (ivals .i64 ((List.map fold (List.take k (decL s))) ++ ([(fold (List.getD (decL s) k 0))] : List Int)))⟩, ⟨3, 1, vl, (List.length (decL s)), (ivals .i64 (decL s))⟩] := hM19.cast (by first | (simp [ivals, svals, bvals, nvals, u8s, Nat.add_assoc]; done) | (simp [ivals, svals, bvals, nvals, u8s, Nat.add_assoc]; omega))
   refine xa 5 ((k : Nat) : Int) 1 (((k + 1) : Nat) : Int) ?_
   have hM22 := hM20.sub (sD (sK (sK sR)))
   exact xl 3 (ih _ (k + 1) _ (by omega) (hM22.cast (by rw [take_snoc _ (by omega), List.map_append, List.map_singleton])) (by omega))
  ·
   have hM3 := hM.sub (sK (sD sR))
   have e1 : List.map fold (List.take k (decL s)) = foldL s := by unfold foldL; rw [List.take_of_length_le (by omega)]
   exact xr 8 (v := .tuple #[vo, .int .i64 (decE s)]) Tryz.func124 hR ⟨_, rfl, by rw [← e1]; exact hM3⟩

set_option maxHeartbeats 400000 in
theorem rfolded_c (s : List UInt8) (hs : s.length * 8 ≤ 140737488355328) (w : World) :
  Calls Tryz.prog 124 #[sS s] w (fun e w' => ∃ v, e = .returned (.tuple #[v, .int .i64 (decE s)]) ∧ Mem [] w w' [⟨3, 1, v, (List.length (foldL s)), (ivals .i64 (foldL s))⟩]) := by
 refine xe 29 Tryz.func124 (fun R hR => ?_)
 have hM0 := Mem.start w
 refine xkv 8 (rdecode_c s (by exact hs) w) (fun v4 w1 m2 => ?_)
 have hM3 := Mem.join hM0 m2
 have hM5 := hM3.nilrow 3 1
 exact xl 17 (rfolded_L s hs v4 R hR ((decL s).length + 1) (.slice none 0 0) 0 w1 (by omega) (hM5.cast (by simp [ivals])) (by omega))


end Go.Proofs.YthpodbngljfdmaaGreatDoor

namespace Go.Gw
set_option linter.unusedVariables false
set_option linter.unusedSimpArgs false
section
variable {P : Program} {f : FuncId} {R : Ending → World → Prop} {k : List Item} {w w' w0 w1 : World} {n : Nat} {s : St} {u : FrameMode} {Q : Ending → FrameMode → World → Prop} {l : Sl}
theorem GoR.seq {c x y : Code} (h : GoR P f Q n u (.code x :: .code y :: k) l w) (hc : c = .seq x y := by kernel_rfl) : GoR P f Q n u (.code c :: k) l w := by
  subst hc; exact GoR.step (fun _ _ _ => step_seq) h
def regId : Code → Nat
  | .region id _ _ => id
  | _ => 0
theorem GoR.region {c : Code} (is : List Nat) (h : GoR P f Q n u (.inRegion (cops c) is :: k) l w) (hc : c = .region (regId c) (cops c) false := by kernel_rfl) (hi : List.range (cops c).size = is := by kernel_rfl) : GoR P f Q n u (.code c :: k) l w := by
  rw [hc]; exact GoR.step (fun _ _ _ => by rw [step_region, hi]) h
def recS (P : Program) (n : Nat) (ops : Array Oper) (i : Nat) (l : Sl) (w : World) : Option (Option Tmp × Result Next) := match ops[i]? with
  | some o => match wantedS ops l o, known l o.op.operands.toList, noSel o.op, inB n o.dst with
    | some true, true, true, true => some (o.dst, (execOp (rho l) o).run P w)
    | _, _, _, _ => none
  | none => none
theorem recS_spec {ops : Array Oper} {i : Nat} {dst : Option Tmp} {r : Result Next} (h : recS P n ops i l w = some (dst, r)) : ∃ o, ops[i]? = some o ∧ wantedS ops l o = some true ∧ known l o.op.operands.toList = true ∧ noSel o.op = true ∧ inB n o.dst = true ∧ o.dst = dst ∧ (execOp (rho l) o).run P w = r := by
  unfold recS at h
  split at h
  · rename_i o ho
    split at h
    · rename_i h1 h2 h3 h4
      simp only [Option.some.injEq, Prod.mk.injEq] at h
      exact ⟨o, ho, h1, h2, h3, h4, h.1, h.2⟩
    · cases h
  · cases h
theorem GoR.take {ops : Array Oper} {i : Nat} {rest : List Nat} (dst : Option Tmp) {v : Value} {older : List PanicEntry} (h : GoR P f Q n (.panicking ({ v, recovered := true } :: older)) (.inRegion ops rest :: k) (putS l dst v) w)
    (hr : recS P n ops i l w = some (dst, .ok .recover w) := by kernel_rfl) : GoR P f Q n (.panicking ({ v, recovered := false } :: older)) (.inRegion ops (i :: rest) :: k) l w := by
  obtain ⟨o, h0, h1, h2, h3, h4, rfl, h5⟩ := recS_spec hr
  exact GoR.taken h0 h1 h2 h3 h4 h5 h
theorem GoR.nothing {ops : Array Oper} {i : Nat} {rest : List Nat} (dst : Option Tmp) (h : GoR P f Q n .returning (.inRegion ops rest :: k) (putS l dst .nilIface) w)
    (hr : recS P n ops i l w = some (dst, .ok .recover w) := by kernel_rfl) : GoR P f Q n .returning (.inRegion ops (i :: rest) :: k) l w := by
  obtain ⟨o, h0, h1, h2, h3, h4, rfl, h5⟩ := recS_spec hr
  exact GoR.none h0 h1 h2 h3 h4 h5 h
theorem GoS.told {D : Fx} (l' : Sl) (hk : GoS P f R n k l' w D) (h : keep l (fsts l') = l' := by kernel_rfl) : GoS P f R n k l w D := GoS.weak (fsts l') (h.symm ▸ hk)
/-- one call put off, which settles what there is -/
theorem Lv.one {fn : Func} {g : FuncId} {fv : Fn} {cap args dargs : Array Value} {rs : List ResultVar} {v0 : Value} {Q0 : World → Prop} (hu : u ≠ .run)
    (hc : CallsD P g args u w (fun e u' w' => e = .returned v0 ∧ settle u' = .returning ∧ Q0 w')) (hk : ∀ w', Q0 w' → ∃ vs, ResC P w' l rs vs ∧ R (.returned (oneOf vs)) w')
    (hi : (invoke (.fn fv cap) dargs).run P w = .ok (.enter g args) w := by kernel_rfl) (he : fn.results.toList = rs := by kernel_rfl) : Lv P fn R n l { defers := [{ target := .fn fv cap, args := dargs }] } u w := by
  intro a ha
  rw [ha.defers]
  refine leaves_cons hu hi (hc.mono ?_)
  rintro e u' w' ⟨rfl, hs, hq⟩
  obtain ⟨vs, h1, h2⟩ := hk w' hq
  show Leaves P fn a.tmps R [] (settle u') w'
  rw [hs]
  exact ⟨oneOf vs, resultsC_run ha he h1, h2⟩
/-- a call that gives a value or a panic, in a frame that has put off a call -/
theorem xkpd (i : Nat) {fn : Func} {g : FuncId} {args : Array Value} {α : Type} {flt : Nat → List PanicEntry} {spec : Except Nat α} {Q : α → Value → World → Prop} {b : Nat} {ds : List Deferred} (hf : P.funcs[f]? = some fn) (hc : Calls P g args w (Pst flt spec Q b w))
    (he : ∀ k w', spec = .error k → Mem [b] w w' [] → Lv P fn R n (opL P n w i s) { defers := ds } (.panicking (flt k)) w') (hk : ∀ a v w', spec = .ok a → Q a v w' → GoX P f R n (nx P n w i v s) w' { defers := ds }) (h : cl P n w i s = some ([], w, g, args, w) := by kernel_rfl) : GoX P f R n s w { defers := ds } :=
  xcd i hf hc (fun e w' hT => hT.elim (fun ⟨a, v, h1, h2, h3⟩ => .inl ⟨v, h2, hk a v w' h1 h3⟩) (fun ⟨k, h1, h2, h3⟩ => .inr ⟨_, h2, he k w' h1 h3⟩)) h
theorem xkdd (i : Nat) {fn : Func} {g : FuncId} {args : Array Value} {ch : List PanicEntry} {Q : World → Prop} {ds : List Deferred} (hf : P.funcs[f]? = some fn) (hc : Calls P g args w (fun e w' => e = .panicked ch ∧ Q w')) (hk : ∀ w', Q w' → Lv P fn R n (opL P n w i s) { defers := ds } (.panicking ch) w') (h : cl P n w i s = some ([], w, g, args, w) := by kernel_rfl) : GoX P f R n s w { defers := ds } :=
  xcd i hf hc (fun e w' hT => .inr ⟨ch, hT.1, hk w' hT.2⟩) h
theorem Lv.told {fn : Func} {D : Fx} (l' : Sl) (hk : Lv P fn R n l' D u w) (h : keep l (fsts l') = l' := by kernel_rfl) : Lv P fn R n l D u w := fun a ha => hk a (h ▸ ha.keep (fsts l'))
theorem Mem.bare {S : List Nat} (h : Kept S w0 w) : Mem S w0 w [] := ⟨h, (fun _ h => by cases h), trivial, (fun _ h => by cases h)⟩
end
end Go.Gw
