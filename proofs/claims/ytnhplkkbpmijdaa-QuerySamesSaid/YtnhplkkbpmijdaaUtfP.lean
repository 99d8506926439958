/-
  Characters and their bytes, as plain numbers and lists. No condition.
-/
import Derived.Test.YtnhplkkbpmijdaaBits
import Derived.Test.YtnhplkkbpmijdaaMem
namespace Go.UtfP
open Go.Gw
set_option linter.unusedVariables false
set_option linter.unusedSimpArgs false

def whole (c : Int) : Bool := decide (0 ≤ c ∧ c ≤ 1114111 ∧ (c < 55296 ∨ c > 57343))
theorem whole_iff {c : Int} : whole c = true ↔ 0 ≤ c ∧ c ≤ 1114111 ∧ (c < 55296 ∨ c > 57343) := by simp [whole]
theorem whole_not {c : Int} (h : whole c = false) : ¬ (0 ≤ c ∧ c ≤ 1114111 ∧ (c < 55296 ∨ c > 57343)) := by simpa [whole] using h

/-- the bytes of a character -/
def one (c : Int) : List Int :=
  if c < 128 then [c]
  else if c < 2048 then [192 + c / 64, 128 + c % 64]
  else if c < 65536 then [224 + c / 4096, 128 + c / 64 % 64, 128 + c % 64]
  else [240 + c / 262144, 128 + c / 4096 % 64, 128 + c / 64 % 64, 128 + c % 64]
theorem one_len (c : Int) : 1 ≤ (one c).length ∧ (one c).length ≤ 4 := by
  unfold one; repeat' split
  all_goals simp
theorem one_bd {c : Int} (h : whole c = true) : ∀ x ∈ one c, 0 ≤ x ∧ x ≤ 255 := by
  have h := whole_iff.1 h
  unfold one
  repeat' split
  all_goals (intro x hx; simp at hx; omega)
def enc (l : List Int) : List Int := l.flatMap one
theorem enc_snoc (l : List Int) (c : Int) : enc (l ++ [c]) = enc l ++ one c := by simp [enc]
theorem enc_app (l m : List Int) : enc (l ++ m) = enc l ++ enc m := by simp [enc]
theorem enc_nil : enc [] = [] := rfl
theorem enc_cons (c : Int) (l : List Int) : enc (c :: l) = one c ++ enc l := by simp [enc]
theorem enc_len (l : List Int) : (enc l).length ≤ 4 * l.length := by
  induction l with
  | nil => simp [enc]
  | cons c l ih => rw [enc_cons, List.length_append, List.length_cons]; have := one_len c; omega
theorem enc_bd {l : List Int} (h : ∀ c ∈ l, whole c = true) : ∀ x ∈ enc l, 0 ≤ x ∧ x ≤ 255 := by
  intro x hx
  obtain ⟨c, hc, hx⟩ := List.mem_flatMap.1 hx
  exact one_bd (h c hc) x hx
theorem bytesOf_app (a b : List Int) : bytesOf (a ++ b) = bytesOf a ++ bytesOf b := by simp [bytesOf]
theorem bytesOf_len (a : List Int) : (bytesOf a).length = a.length := by simp [bytesOf]
theorem take_snoc (l : List Int) {k : Nat} (h : k < l.length) : l.take (k + 1) = l.take k ++ [l.getD k 0] := by
  rw [List.take_succ_eq_append_getElem h, List.getD_eq_getElem?_getD, List.getElem?_eq_getElem h]; rfl

def allW (l : List Int) : Bool := l.all whole
theorem allW_iff {l : List Int} : allW l = true ↔ ∀ c ∈ l, whole c = true := by simp [allW]
theorem allW_upto {l : List Int} {k : Nat} (h : ∀ j, j < k → whole (l.getD j 0) = true) : ∀ c ∈ l.take k, whole c = true := by
  intro c hc
  obtain ⟨j, hj⟩ := List.mem_iff_getElem?.1 hc
  rw [List.getElem?_take] at hj
  split at hj
  · rename_i hlt
    have := h j hlt
    rw [List.getD_eq_getElem?_getD, hj] at this
    exact this
  · cases hj
theorem allW_all {l : List Int} (h : ∀ j, j < l.length → whole (l.getD j 0) = true) : allW l = true := by
  rw [allW_iff]
  have := allW_upto (k := l.length) h
  rwa [List.take_length] at this
theorem allW_no {l : List Int} {k : Nat} (hk : k < l.length) (h : whole (l.getD k 0) = false) : allW l = false := by
  cases hq : allW l
  · rfl
  · have := allW_iff.1 hq (l.getD k 0) (by rw [List.getD_eq_getElem?_getD, List.getElem?_eq_getElem hk]; exact List.getElem_mem hk)
    rw [this] at h; cases h

/-- the text and the error of a list -/
def encT (l : List Int) : List UInt8 := if allW l then bytesOf (enc l) else []
def encE (l : List Int) : Int := if allW l then 0 else 1

def LetterP (c : Int) : Prop := (97 ≤ c ∧ c ≤ 122) ∨ (65 ≤ c ∧ c ≤ 90) ∨ (48 ≤ c ∧ c ≤ 57) ∨ (192 ≤ c ∧ c ≤ 214) ∨ (216 ≤ c ∧ c ≤ 246) ∨ (248 ≤ c ∧ c ≤ 591) ∨ (880 ≤ c ∧ c ≤ 893) ∨ (895 ≤ c ∧ c ≤ 1153) ∨ (1155 ≤ c ∧ c ≤ 1327) ∨ (19968 ≤ c ∧ c ≤ 40959)
instance (c : Int) : Decidable (LetterP c) := by unfold LetterP; infer_instance
def letter (c : Int) : Bool := decide (LetterP c)
theorem letter_iff {c : Int} : letter c = true ↔ LetterP c := by simp [letter]
theorem letter_t {c : Int} (h : LetterP c) : true = letter c := (letter_iff.2 h).symm
theorem letter_f {c : Int} (h : ¬ LetterP c) : false = letter c := by
  cases hq : letter c
  · rfl
  · exact absurd (letter_iff.1 hq) h
def UpP (c : Int) : Prop := (65 ≤ c ∧ c ≤ 90) ∨ (192 ≤ c ∧ c ≤ 214) ∨ (216 ≤ c ∧ c ≤ 222) ∨ (913 ≤ c ∧ c ≤ 929) ∨ (931 ≤ c ∧ c ≤ 937) ∨ (1040 ≤ c ∧ c ≤ 1071)
instance (c : Int) : Decidable (UpP c) := by unfold UpP; infer_instance
def fold (c : Int) : Int := if UpP c then c + 32 else if 1024 ≤ c ∧ c ≤ 1039 then c + 80 else if c = 962 then 963 else c

/-- is a number in one of the ranges? -/
def among (c : Int) : List Int → Bool
  | a :: b :: r => (decide (c ≥ a) && decide (c ≤ b)) || among c r
  | _ => false
theorem drop_two {l : List Int} {i : Nat} (h : i + 1 < l.length) : l.drop i = l.getD i 0 :: l.getD (i + 1) 0 :: l.drop (i + 2) := by
  rw [List.drop_eq_getElem_cons (by omega), List.drop_eq_getElem_cons h]
  simp [List.getD_eq_getElem?_getD, List.getElem?_eq_getElem h, List.getElem?_eq_getElem (show i < l.length by omega)]
theorem among_step {c : Int} {l : List Int} {i : Nat} (h : i + 1 < l.length) : among c (l.drop i) = ((decide (c ≥ l.getD i 0) && decide (c ≤ l.getD (i + 1) 0)) || among c (l.drop (i + 2))) := by
  rw [drop_two h]; rfl
theorem p_nf2 {b : Bool} (h : (!b) = false) : b = true := by simpa using h
theorem list_getD_ext {a b : List Int} (h : a.length = b.length) (h2 : ∀ j, j < a.length → a.getD j 0 = b.getD j 0) : a = b := by
  apply List.ext_getElem h
  intro j h3 h4
  have := h2 j h3
  simpa [List.getD_eq_getElem?_getD, List.getElem?_eq_getElem h3, List.getElem?_eq_getElem h4] using this
theorem list_getD_ne {a b : List Int} {j : Nat} (h : a.getD j 0 ≠ b.getD j 0) : a ≠ b := by rintro rfl; exact h rfl

/-- the first character of bytes, and how many it has; (0, 0): there is none -/
def firstP (s : List UInt8) : Int × Int :=
  if bl s 0 < 128 then (bl s 0, 1)
  else if bl s 0 < 192 then (0, 0)
  else if bl s 0 < 224 then
    if s.length < 2 ∨ bl s 1 / 64 * 64 ≠ 128 ∨ bl s 0 % 32 * 64 + bl s 1 % 64 < 128 ∨ whole (bl s 0 % 32 * 64 + bl s 1 % 64) = false then (0, 0) else (bl s 0 % 32 * 64 + bl s 1 % 64, 2)
  else if bl s 0 < 240 then
    if s.length < 3 ∨ bl s 1 / 64 * 64 ≠ 128 ∨ bl s 2 / 64 * 64 ≠ 128 ∨ (bl s 0 % 16 * 64 + bl s 1 % 64) * 64 + bl s 2 % 64 < 2048 ∨ whole ((bl s 0 % 16 * 64 + bl s 1 % 64) * 64 + bl s 2 % 64) = false then (0, 0)
    else ((bl s 0 % 16 * 64 + bl s 1 % 64) * 64 + bl s 2 % 64, 3)
  else if bl s 0 < 248 then
    if s.length < 4 ∨ bl s 1 / 64 * 64 ≠ 128 ∨ bl s 2 / 64 * 64 ≠ 128 ∨ bl s 3 / 64 * 64 ≠ 128 ∨ ((bl s 0 % 8 * 64 + bl s 1 % 64) * 64 + bl s 2 % 64) * 64 + bl s 3 % 64 < 65536 ∨ whole (((bl s 0 % 8 * 64 + bl s 1 % 64) * 64 + bl s 2 % 64) * 64 + bl s 3 % 64) = false then (0, 0)
    else (((bl s 0 % 8 * 64 + bl s 1 % 64) * 64 + bl s 2 % 64) * 64 + bl s 3 % 64, 4)
  else (0, 0)

/-- which character as many bytes would be -/
def guessF (c : Int) : List UInt8 → Int
  | [] => c
  | b :: r => guessF (64 * c + (b.toNat : Int) - 128) r
def leadP (n : Nat) : Int := ([0, 0, 192, 224, 240] : List Int).getD n 0
theorem lead_bd (j : Nat) : 0 ≤ (([0, 0, 192, 224, 240] : List Int).getD j 0) ∧ (([0, 0, 192, 224, 240] : List Int).getD j 0) ≤ 240 := by
  match j with
  | 0 => decide
  | 1 => decide
  | 2 => decide
  | 3 => decide
  | 4 => decide
  | n + 5 => simp
def guessP (s : List UInt8) : Int := guessF (bl s 0 - leadP s.length) (s.drop 1)
theorem guessF_step {c : Int} {s : List UInt8} {i : Nat} (h : i < s.length) : guessF c (s.drop i) = guessF (64 * c + bl s i - 128) (s.drop (i + 1)) := by
  rw [List.drop_eq_getElem_cons h]
  simp [guessF, bl, List.getD_eq_getElem?_getD, List.getElem?_eq_getElem h]
theorem guessF_end {c : Int} {s : List UInt8} {i : Nat} (h : ¬ i < s.length) : guessF c (s.drop i) = c := by
  rw [List.drop_eq_nil_of_le (by omega)]; rfl

/-- the characters of bytes: by a bound on how many there are -/
def decF : Nat → List Int → List UInt8 → Option (List Int)
  | 0, l, s => if s = [] then some l else none
  | n + 1, l, s => if s = [] then some l else if (firstP s).2 = 0 then none else decF n (l ++ [(firstP s).1]) (s.drop (firstP s).2.toNat)
def dec (s : List UInt8) : Option (List Int) := decF s.length [] s
def decL (s : List UInt8) : List Int := (dec s).getD []
def decE (s : List UInt8) : Int := if (dec s).isSome then 0 else 7

theorem firstP_n {s : List UInt8} (h : 0 < s.length) : 0 ≤ (firstP s).2 ∧ (firstP s).2 ≤ 4 ∧ (firstP s).2 ≤ (s.length : Int) := by
  unfold firstP
  repeat' split
  all_goals (dsimp only; omega)
theorem u8_nat (x : Int) (h : 0 ≤ x ∧ x ≤ 255) : ((UInt8.ofNat x.toNat).toNat : Int) = x := by
  rw [UInt8.toNat_ofNat']; omega
theorem u8_back (b : UInt8) : UInt8.ofNat ((b.toNat : Int)).toNat = b := by simp
theorem take_bl {s : List UInt8} {n : Nat} (h : n ≤ s.length) : s.take n = bytesOf ((List.range n).map (bl s)) := by
  apply List.ext_getElem
  · simp [bytesOf]; omega
  · intro j h1 h2
    have : j < s.length := by simp at h1; omega
    simp [bytesOf, bl, List.getD_eq_getElem?_getD, List.getElem?_eq_getElem this]
theorem bl_of_take {s : List UInt8} {L : List Int} (h : s.take L.length = bytesOf L) (hL : ∀ x ∈ L, 0 ≤ x ∧ x ≤ 255) {j : Nat} (hj : j < L.length) : bl s j = L.getD j 0 := by
  have h1 : (s.take L.length)[j]? = (bytesOf L)[j]? := by rw [h]
  rw [List.getElem?_take, if_pos hj] at h1
  simp only [bytesOf, List.getElem?_map, List.getElem?_eq_getElem hj, Option.map_some] at h1
  rw [bl, List.getD_eq_getElem?_getD, h1, List.getD_eq_getElem?_getD, List.getElem?_eq_getElem hj]
  exact u8_nat _ (hL _ (List.getElem_mem hj))
theorem len_of_take {s : List UInt8} {L : List Int} (h : s.take L.length = bytesOf L) : L.length ≤ s.length := by
  have := congrArg List.length h
  rw [List.length_take, bytesOf_len] at this; omega

theorem one_one {c : Int} (h : c < 128) : one c = [c] := by unfold one; rw [if_pos h]
theorem one_two {c : Int} (h : ¬ c < 128) (h2 : c < 2048) : one c = [192 + c / 64, 128 + c % 64] := by unfold one; rw [if_neg h, if_pos h2]
theorem one_three {c : Int} (h : ¬ c < 2048) (h2 : c < 65536) : one c = [224 + c / 4096, 128 + c / 64 % 64, 128 + c % 64] := by unfold one; rw [if_neg (by omega), if_neg h, if_pos h2]
theorem one_four {c : Int} (h : ¬ c < 65536) : one c = [240 + c / 262144, 128 + c / 4096 % 64, 128 + c / 64 % 64, 128 + c % 64] := by unfold one; rw [if_neg (by omega), if_neg (by omega), if_neg h]

/-- bytes that begin with a character's -/
theorem firstP_of {s : List UInt8} {c : Int} (hc : whole c = true) (h : s.take (one c).length = bytesOf (one c)) : firstP s = (c, ((one c).length : Int)) := by
  have hl := len_of_take h
  have hb := one_bd hc
  have hw := whole_iff.1 hc
  by_cases h1 : c < 128
  · rw [one_one h1] at h hl hb ⊢
    have b0 := bl_of_take h hb (j := 0) (by simp)
    simp at b0
    unfold firstP
    rw [if_pos (by omega), b0]; rfl
  · by_cases h2 : c < 2048
    · rw [one_two h1 h2] at h hl hb ⊢
      have b0 := bl_of_take h hb (j := 0) (by simp)
      have b1 := bl_of_take h hb (j := 1) (by simp)
      simp at b0 b1 hl
      have e : bl s 0 % 32 * 64 + bl s 1 % 64 = c := by omega
      unfold firstP
      rw [if_neg (by omega), if_neg (by omega), if_pos (by omega), e, if_neg (by rintro (h | h | h | h); omega; omega; omega; rw [hc] at h; cases h)]; rfl
    · by_cases h3 : c < 65536
      · rw [one_three h2 h3] at h hl hb ⊢
        have b0 := bl_of_take h hb (j := 0) (by simp)
        have b1 := bl_of_take h hb (j := 1) (by simp)
        have b2 := bl_of_take h hb (j := 2) (by simp)
        simp at b0 b1 b2 hl
        have e : (bl s 0 % 16 * 64 + bl s 1 % 64) * 64 + bl s 2 % 64 = c := by omega
        unfold firstP
        rw [if_neg (by omega), if_neg (by omega), if_neg (by omega), if_pos (by omega), e, if_neg (by rintro (h | h | h | h | h); omega; omega; omega; omega; rw [hc] at h; cases h)]; rfl
      · rw [one_four h3] at h hl hb ⊢
        have b0 := bl_of_take h hb (j := 0) (by simp)
        have b1 := bl_of_take h hb (j := 1) (by simp)
        have b2 := bl_of_take h hb (j := 2) (by simp)
        have b3 := bl_of_take h hb (j := 3) (by simp)
        simp at b0 b1 b2 b3 hl
        have e : ((bl s 0 % 8 * 64 + bl s 1 % 64) * 64 + bl s 2 % 64) * 64 + bl s 3 % 64 = c := by omega
        unfold firstP
        rw [if_neg (by omega), if_neg (by omega), if_neg (by omega), if_neg (by omega), if_pos (by omega), e, if_neg (by rintro (h | h | h | h | h | h); omega; omega; omega; omega; omega; rw [hc] at h; cases h)]; rfl
/-- what is read stands there -/
theorem firstP_yes {s : List UInt8} (hs : 0 < s.length) {n : Nat} (h : (firstP s).2 = (n : Int)) (hn : 0 < n) : whole (firstP s).1 = true ∧ bytesOf (one (firstP s).1) = s.take n ∧ (one (firstP s).1).length = n := by
  have b0 := bl_bd s 0
  have b1 := bl_bd s 1
  have b2 := bl_bd s 2
  have b3 := bl_bd s 3
  unfold firstP at h ⊢
  split at h
  · rename_i q
    dsimp only at h
    obtain rfl : n = 1 := by omega
    rw [if_pos q, take_bl (by omega)]
    dsimp only
    refine ⟨whole_iff.2 (by omega), ?_, ?_⟩ <;> rw [one_one q] <;> simp [List.range_succ]
  · split at h
    · dsimp only at h; omega
    · split at h
      · split at h
        · dsimp only at h; omega
        · rename_i q0 q1 q2 q
          dsimp only at h
          obtain rfl : n = 2 := by omega
          have q' := q
          simp only [not_or, ne_eq, Decidable.not_not] at q
          have q4 : whole (bl s 0 % 32 * 64 + bl s 1 % 64) = true := by simpa using q.2.2.2
          rw [if_neg q0, if_neg q1, if_pos q2, if_neg q', take_bl (by omega)]
          dsimp only
          have e : one (bl s 0 % 32 * 64 + bl s 1 % 64) = [bl s 0, bl s 1] := by
            rw [one_two (by omega) (by omega)]
            congr 1
            · omega
            · congr 1; omega
          refine ⟨q4, ?_, ?_⟩ <;> rw [e] <;> simp [List.range_succ]
      · split at h
        · split at h
          · dsimp only at h; omega
          · rename_i q0 q1 q2 q3 q
            dsimp only at h
            obtain rfl : n = 3 := by omega
            have q' := q
            simp only [not_or, ne_eq, Decidable.not_not] at q
            have q4 : whole ((bl s 0 % 16 * 64 + bl s 1 % 64) * 64 + bl s 2 % 64) = true := by simpa using q.2.2.2.2
            rw [if_neg q0, if_neg q1, if_neg q2, if_pos q3, if_neg q', take_bl (by omega)]
            dsimp only
            have e : one ((bl s 0 % 16 * 64 + bl s 1 % 64) * 64 + bl s 2 % 64) = [bl s 0, bl s 1, bl s 2] := by
              rw [one_three (by omega) (by omega)]
              congr 1
              · omega
              · congr 1
                · omega
                · congr 1; omega
            refine ⟨q4, ?_, ?_⟩ <;> rw [e] <;> simp [List.range_succ]
        · split at h
          · split at h
            · dsimp only at h; omega
            · rename_i q0 q1 q2 q3 qq q
              dsimp only at h
              obtain rfl : n = 4 := by omega
              have q' := q
              simp only [not_or, ne_eq, Decidable.not_not] at q
              have q4 : whole (((bl s 0 % 8 * 64 + bl s 1 % 64) * 64 + bl s 2 % 64) * 64 + bl s 3 % 64) = true := by simpa using q.2.2.2.2.2
              rw [if_neg q0, if_neg q1, if_neg q2, if_neg q3, if_pos qq, if_neg q', take_bl (by omega)]
              dsimp only
              have e : one (((bl s 0 % 8 * 64 + bl s 1 % 64) * 64 + bl s 2 % 64) * 64 + bl s 3 % 64) = [bl s 0, bl s 1, bl s 2, bl s 3] := by
                rw [one_four (by omega)]
                congr 1
                · omega
                · congr 1
                  · omega
                  · congr 1
                    · omega
                    · congr 1; omega
              refine ⟨q4, ?_, ?_⟩ <;> rw [e] <;> simp [List.range_succ]
          · dsimp only at h; omega

theorem bl_bytesOf {L : List Int} (hL : ∀ x ∈ L, 0 ≤ x ∧ x ≤ 255) {j : Nat} (hj : j < L.length) : bl (bytesOf L) j = L.getD j 0 :=
  bl_of_take (by rw [List.take_of_length_le (by rw [bytesOf_len]; omega)]) hL hj
theorem guess_one {c : Int} (hc : whole c = true) : guessP (bytesOf (one c)) = c := by
  have hb := one_bd hc
  have hw := whole_iff.1 hc
  by_cases h1 : c < 128
  · rw [one_one h1] at hb ⊢
    have b0 := bl_bytesOf hb (j := 0) (by simp)
    unfold guessP
    rw [guessF_end (by simp [bytesOf]), b0, bytesOf_len]
    simp [leadP]
  · by_cases h2 : c < 2048
    · rw [one_two h1 h2] at hb ⊢
      have b0 := bl_bytesOf hb (j := 0) (by simp)
      have b1 := bl_bytesOf hb (j := 1) (by simp)
      unfold guessP
      rw [guessF_step (by simp [bytesOf]), guessF_end (by simp [bytesOf]), b0, b1, bytesOf_len]
      simp [leadP]; omega
    · by_cases h3 : c < 65536
      · rw [one_three h2 h3] at hb ⊢
        have b0 := bl_bytesOf hb (j := 0) (by simp)
        have b1 := bl_bytesOf hb (j := 1) (by simp)
        have b2 := bl_bytesOf hb (j := 2) (by simp)
        unfold guessP
        rw [guessF_step (by simp [bytesOf]), guessF_step (by simp [bytesOf]), guessF_end (by simp [bytesOf]), b0, b1, b2, bytesOf_len]
        simp [leadP]; omega
      · rw [one_four h3] at hb ⊢
        have b0 := bl_bytesOf hb (j := 0) (by simp)
        have b1 := bl_bytesOf hb (j := 1) (by simp)
        have b2 := bl_bytesOf hb (j := 2) (by simp)
        have b3 := bl_bytesOf hb (j := 3) (by simp)
        unfold guessP
        rw [guessF_step (by simp [bytesOf]), guessF_step (by simp [bytesOf]), guessF_step (by simp [bytesOf]), guessF_end (by simp [bytesOf]), b0, b1, b2, b3, bytesOf_len]
        simp [leadP]; omega

theorem decF_fuel : ∀ (n m : Nat) (l : List Int) (s : List UInt8), s.length ≤ n → s.length ≤ m → decF n l s = decF m l s
  | 0, 0, _, _, _, _ => rfl
  | 0, m + 1, l, s, h, _ => by obtain rfl : s = [] := List.eq_nil_of_length_eq_zero (by omega); rfl
  | n + 1, 0, l, s, _, h => by obtain rfl : s = [] := List.eq_nil_of_length_eq_zero (by omega); rfl
  | n + 1, m + 1, l, s, h, h' => by
    unfold decF
    by_cases hs : s = []
    · rw [if_pos hs, if_pos hs]
    · rw [if_neg hs, if_neg hs]
      by_cases hz : (firstP s).2 = 0
      · rw [if_pos hz, if_pos hz]
      · rw [if_neg hz, if_neg hz]
        have hp := List.length_pos_iff.2 hs
        have := firstP_n hp
        exact decF_fuel n m _ _ (by rw [List.length_drop]; omega) (by rw [List.length_drop]; omega)
theorem dec_step {l : List Int} {r : List UInt8} {c : Int} {n : Nat} (hr : r ≠ []) (h : firstP r = (c, (n : Int))) (hn : 0 < n) : decF r.length l r = decF (r.drop n).length (l ++ [c]) (r.drop n) := by
  have hp := List.length_pos_iff.2 hr
  obtain ⟨m, hm⟩ : ∃ m, r.length = m + 1 := ⟨r.length - 1, by omega⟩
  rw [hm]
  show (if r = [] then some l else if (firstP r).2 = 0 then none else decF m (l ++ [(firstP r).1]) (r.drop (firstP r).2.toNat)) = _
  rw [if_neg hr, h]
  dsimp only
  rw [if_neg (by omega)]
  simp only [Int.toNat_natCast]
  exact decF_fuel _ _ _ _ (by rw [List.length_drop]; omega) (Nat.le_refl _)
theorem dec_step2 {l : List Int} {r : List UInt8} {n : Nat} (hr : r ≠ []) (h : (firstP r).2 = (n : Int)) (hn : 0 < n) : decF r.length l r = decF (r.drop n).length (l ++ [(firstP r).1]) (r.drop n) :=
  dec_step hr (by rw [← h]) hn
theorem dec_yes {s r : List UInt8} {l : List Int} (hd : decF r.length l r = dec s) (h : r = []) : decL s = l ∧ decE s = 0 := by
  subst h
  have : dec s = some l := hd.symm
  simp [decL, decE, this]
theorem dec_no {s r : List UInt8} {l : List Int} (hd : decF r.length l r = dec s) (hr : r ≠ []) (h : (firstP r).2 = 0) : decL s = [] ∧ decE s = 7 := by
  have hp := List.length_pos_iff.2 hr
  obtain ⟨m, hm⟩ : ∃ m, r.length = m + 1 := ⟨r.length - 1, by omega⟩
  rw [hm] at hd
  have : dec s = none := by
    rw [← hd]
    show (if r = [] then some l else if (firstP r).2 = 0 then none else decF m (l ++ [(firstP r).1]) (r.drop (firstP r).2.toNat)) = _
    rw [if_neg hr, if_pos h]
  simp [decL, decE, this]
/-- the guess that fits is the first character -/
theorem guess_fits {s t : List UInt8} {a n : Nat} (ht : t = (s.drop a).take n) (hl : a + n ≤ s.length) (hw : whole (guessP t) = true) (h : bytesOf (one (guessP t)) = t) : firstP (s.drop a) = (guessP t, (n : Int)) := by
  have hn : (one (guessP t)).length = n := by
    have := congrArg List.length h
    rw [bytesOf_len] at this
    rw [this, ht, List.length_take, List.length_drop]; omega
  have := firstP_of (s := s.drop a) hw (by rw [hn, h]; exact ht.symm)
  rw [this, hn]
theorem guess_no {s t : List UInt8} {a n : Nat} (ht : t = (s.drop a).take n) (hl : a + n ≤ s.length) (hn : 0 < n) (h : whole (guessP t) = false ∨ ¬ (bytesOf (one (guessP t)) = t)) : (firstP (s.drop a)).2 ≠ (n : Int) := by
  intro e
  obtain ⟨h1, h2, h3⟩ := firstP_yes (s := s.drop a) (by rw [List.length_drop]; omega) e hn
  rw [← ht] at h2
  have : guessP t = (firstP (s.drop a)).1 := by rw [← h2]; exact guess_one h1
  rw [this] at h
  rcases h with h | h
  · rw [h1] at h; cases h
  · exact h h2
theorem first_none {s : List UInt8} {a n : Nat} (ha : a < s.length) (hn : 4 < n ∨ s.length < a + n) (hno : ∀ m : Nat, 0 < m → m < n → m ≤ 4 → a + m ≤ s.length → (firstP (s.drop a)).2 ≠ (m : Int)) : (firstP (s.drop a)).2 = 0 := by
  have h := firstP_n (s := s.drop a) (by rw [List.length_drop]; omega)
  rw [List.length_drop] at h
  by_cases hz : (firstP (s.drop a)).2 = 0
  · exact hz
  · exact absurd (show (firstP (s.drop a)).2 = (((firstP (s.drop a)).2.toNat : Nat) : Int) by omega) (hno _ (by omega) (by omega) (by omega) (by omega))

theorem among_letter (c : Int) : among c [97, 122, 65, 90, 48, 57, 192, 214, 216, 246, 248, 591, 880, 893, 895, 1153, 1155, 1327, 19968, 40959] = letter c := by
  rw [Bool.eq_iff_iff, letter_iff]
  unfold LetterP
  simp [among]
theorem among_up (c : Int) : among c [65, 90, 192, 214, 216, 222, 913, 929, 931, 937, 1040, 1071] = true ↔ UpP c := by
  unfold UpP
  simp [among]
theorem among_up_no (c : Int) (h : among c [65, 90, 192, 214, 216, 222, 913, 929, 931, 937, 1040, 1071] = false) : ¬ UpP c := by
  intro hu
  rw [(among_up c).2 hu] at h; cases h

end Go.UtfP
