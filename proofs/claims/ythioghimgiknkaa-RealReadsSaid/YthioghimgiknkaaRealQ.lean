/-
  The quotient of two whole numbers, rounded to the nearest number of 64 bits, as long division gives it. For numbers from 1 on below 2^53.
-/
import Derived.Laws.FloatArith
namespace Go.RealQ
set_option linter.unusedVariables false
set_option linter.unusedSimpArgs false
theorem log2_eq {n k : Nat} (h1 : 2 ^ k ≤ n) (h2 : n < 2 ^ (k + 1)) : n.log2 = k := by
  have hn : n ≠ 0 := by have := Nat.two_pow_pos k; omega
  have a := (Nat.le_log2 hn).2 h1
  have b := (Nat.log2_lt hn).2 h2
  omega
theorem log2_bd {n : Nat} (h : 0 < n) : 2 ^ n.log2 ≤ n ∧ n < 2 ^ (n.log2 + 1) := ⟨Nat.log2_self_le (by omega), Nat.lt_log2_self⟩
theorem d_binade : Ieee.double.binade = 4503599627370496 := by decide +kernel
theorem d_inf : Ieee.double.infRung = 9218868437227405312 := by decide +kernel
theorem d_sign : Ieee.double.signWeight = 9223372036854775808 := by decide +kernel
theorem d_least : Ieee.double.leastPlace = -1074 := by decide +kernel
theorem d_frac : Ieee.double.fractionBits = 52 := rfl
abbrev near (x : Nat) : Nat := FloatKind.nearest .f64 ((x : Nat) : Int)
theorem near_eq (x : Nat) : near x = Ieee.double.nearest false x 0 := by
  show Ieee.double.write (.number (decide (((x : Nat) : Int) < 0)) ((x : Nat) : Int).natAbs 0) = _
  rw [decide_eq_false (by omega), Int.natAbs_natCast]; rfl
theorem word_false (f : Ieee.Format) (r : Nat) : f.word false r = r := rfl
theorem cut0 (n : Nat) : Ieee.Toward.even.cut false n 0 = n := by
  simp [Ieee.Toward.cut, Nat.mod_one]
theorem read_of {f : Ieee.Format} {w : Nat} (h1 : w < f.signWeight) (h2 : ¬ w < f.binade) (h3 : w < f.infRung) : f.read w = .number false (f.binade + w % f.binade) (f.leastPlace + ((w / f.binade - 1 : Nat) : Int)) := by
  unfold Ieee.Format.read
  simp only [Nat.div_eq_of_lt h1, Nat.mod_eq_of_lt h1]
  rw [if_neg h2, if_pos h3]
  rfl
theorem nearest_of {f : Ieee.Format} {mag kept : Nat} {place last : Int} (hm : mag ≠ 0) (hl : max (place + mag.log2 - f.fractionBits) f.leastPlace = last) (hk : Ieee.Toward.even.cut false (mag <<< (place - last).toNat) (last - place).toNat = kept)
    (hi : (last - f.leastPlace).toNat * f.binade + kept ≤ f.infRung) : f.nearest false mag place = (last - f.leastPlace).toNat * f.binade + kept := by
  unfold Ieee.Format.nearest
  rw [if_neg hm]
  simp only [hl, hk]
  rw [word_false, Nat.min_eq_left hi]
theorem cut_of {n drop gap : Nat} (h : 1 <<< min drop (n.log2 + 2) = gap) : Ieee.Toward.even.cut false n drop = n / gap + (decide (gap < 2 * (n % gap)) || (gap == 2 * (n % gap) && n / gap % 2 == 1)).toNat := by
  unfold Ieee.Toward.cut
  simp only [h]
theorem quotient_of {digits m n : Nat} {s t : Bool} {i j : Int} (hn : n ≠ 0) : (Ieee.Datum.number s m i).quotient digits (.number t n j) = some (.number (s ^^ t) (2 * ((m <<< (digits + n.log2 - m.log2)) / n) + ((m <<< (digits + n.log2 - m.log2)) % n != 0).toNat) (i - j - ((digits + n.log2 - m.log2 : Nat) : Int) - 1)) := by
  show (if n = 0 then _ else _) = _
  rw [if_neg hn]
theorem toNat_if {q : Nat} (b : Bool) (p : Prop) [Decidable p] (h : b = true ↔ p) : q + b.toNat = q + if p then 1 else 0 := by
  cases b with
  | true => rw [if_pos (h.1 rfl)]; rfl
  | false => rw [if_neg (fun z => Bool.noConfusion (h.2 z))]; rfl
theorem mant {x : Nat} (h : 0 < x) (h2 : x < 9007199254740992) : x.log2 ≤ 52 ∧ 4503599627370496 ≤ x * 2 ^ (52 - x.log2) ∧ x * 2 ^ (52 - x.log2) < 9007199254740992 := by
  have hb := log2_bd h
  have hl : x.log2 ≤ 52 := by
    have := (Nat.log2_lt (show x ≠ 0 by omega)).2 (show x < 2 ^ 53 by omega)
    omega
  refine ⟨hl, ?_, ?_⟩
  · calc 4503599627370496 = 2 ^ x.log2 * 2 ^ (52 - x.log2) := by rw [← Nat.pow_add, show x.log2 + (52 - x.log2) = 52 by omega]
      _ ≤ _ := Nat.mul_le_mul_right _ hb.1
  · calc x * 2 ^ (52 - x.log2) < 2 ^ (x.log2 + 1) * 2 ^ (52 - x.log2) := Nat.mul_lt_mul_of_pos_right hb.2 (Nat.two_pow_pos _)
      _ = 9007199254740992 := by rw [← Nat.pow_add, show x.log2 + 1 + (52 - x.log2) = 53 by omega]
theorem near_word {x : Nat} (h : 0 < x) (h2 : x < 9007199254740992) : near x = (x.log2 + 1022) * 4503599627370496 + x * 2 ^ (52 - x.log2) := by
  obtain ⟨hl, h3, h4⟩ := mant h h2
  have e1 : max ((0 : Int) + ((x.log2 : Nat) : Int) - ((Ieee.double.fractionBits : Nat) : Int)) Ieee.double.leastPlace = ((x.log2 : Nat) : Int) - 52 := by rw [d_least, d_frac]; omega
  have e2 : ((0 : Int) - (((x.log2 : Nat) : Int) - 52)).toNat = 52 - x.log2 := by omega
  have e3 : ((((x.log2 : Nat) : Int) - 52) - 0).toNat = 0 := by omega
  have e4 : ((((x.log2 : Nat) : Int) - 52) - Ieee.double.leastPlace).toNat = x.log2 + 1022 := by rw [d_least]; omega
  have key := nearest_of (f := Ieee.double) (mag := x) (place := 0) (last := ((x.log2 : Nat) : Int) - 52) (kept := x * 2 ^ (52 - x.log2)) (by omega) e1 (by rw [e2, e3, cut0, Nat.shiftLeft_eq]) (by rw [e4, d_binade, d_inf]; omega)
  rw [near_eq, key, e4, d_binade]
theorem near_read {x : Nat} (h : 0 < x) (h2 : x < 9007199254740992) : Ieee.double.read (near x) = .number false (x * 2 ^ (52 - x.log2)) (((x.log2 : Nat) : Int) - 52) := by
  obtain ⟨hl, h3, h4⟩ := mant h h2
  rw [near_word h h2]
  generalize x * 2 ^ (52 - x.log2) = m at *
  generalize x.log2 = l at *
  rw [read_of (by rw [d_sign]; omega) (by rw [d_binade]; omega) (by rw [d_inf]; omega), d_binade, d_least]
  have e1 : ((l + 1022) * 4503599627370496 + m) / 4503599627370496 = l + 1023 := by omega
  have e2 : ((l + 1022) * 4503599627370496 + m) % 4503599627370496 = m - 4503599627370496 := by omega
  have e3 : 4503599627370496 + (m - 4503599627370496) = m := by omega
  have e4 : (-1074 : Int) + ((l + 1023 - 1 : Nat) : Int) = ((l : Nat) : Int) - 52 := by omega
  rw [e1, e2, e3, e4]
/-- a half above, to the even one where it is just a half -/
def rndQ (q : Nat) (s : Bool) : Nat := q / 2 + (if q % 2 = 1 ∧ (s = true ∨ q / 2 % 2 = 1) then 1 else 0)
theorem rndQ_le {q : Nat} {s : Bool} (h : q < 18014398509481984) : rndQ q s ≤ 9007199254740992 := by unfold rndQ; split <;> omega
theorem rndQ_ge {q : Nat} {s : Bool} (h : 9007199254740992 ≤ q) : 4503599627370496 ≤ rndQ q s := by unfold rndQ; split <;> omega
theorem cut_two {q t : Nat} (ht : t ≤ 1) (h1 : 9007199254740992 ≤ q) (h2 : q < 18014398509481984) : (2 * q + t).log2 = 54 ∧ Ieee.Toward.even.cut false (2 * q + t) 2 = rndQ q (decide (t = 1)) := by
  have p1 : (2 : Nat) ^ 54 = 18014398509481984 := by decide
  have p2 : (2 : Nat) ^ (54 + 1) = 36028797018963968 := by decide
  have hl : (2 * q + t).log2 = 54 := log2_eq (by rw [p1]; omega) (by rw [p2]; omega)
  refine ⟨hl, ?_⟩
  rw [cut_of (gap := 4) (by rw [hl]; decide)]
  have e1 : (2 * q + t) / 4 = q / 2 := by omega
  have e2 : (2 * q + t) % 4 = 2 * (q % 2) + t := by omega
  rw [e1, e2]
  unfold rndQ
  refine toNat_if _ _ ?_
  simp only [Bool.or_eq_true, Bool.and_eq_true, decide_eq_true_eq, beq_iff_eq]
  omega
theorem cut_three {q t : Nat} (ht : t ≤ 1) (h1 : 18014398509481984 ≤ q) (h2 : q < 36028797018963968) : (2 * q + t).log2 = 55 ∧ Ieee.Toward.even.cut false (2 * q + t) 3 = rndQ (q / 2) (decide (t = 1) || q % 2 == 1) := by
  have p1 : (2 : Nat) ^ 55 = 36028797018963968 := by decide
  have p2 : (2 : Nat) ^ (55 + 1) = 72057594037927936 := by decide
  have hl : (2 * q + t).log2 = 55 := log2_eq (by rw [p1]; omega) (by rw [p2]; omega)
  refine ⟨hl, ?_⟩
  rw [cut_of (gap := 8) (by rw [hl]; decide)]
  have e1 : (2 * q + t) / 8 = q / 2 / 2 := by omega
  have e2 : (2 * q + t) % 8 = 2 * (q % 4) + t := by omega
  rw [e1, e2]
  unfold rndQ
  refine toNat_if _ _ ?_
  simp only [Bool.or_eq_true, Bool.and_eq_true, decide_eq_true_eq, beq_iff_eq]
  omega
theorem write_of {mag j drop kept : Nat} (hm : 0 < mag) (hlog : mag.log2 = 52 + drop) (hj : j + 1 ≤ 1000) (hd : drop ≤ 10) (hk : Ieee.Toward.even.cut false mag drop = kept) (hk2 : kept ≤ 9007199254740992) :
    Ieee.double.write (.number false mag (-((j : Nat) : Int) - 1)) = (1073 + drop - j) * 4503599627370496 + kept := by
  have e1 : max ((-((j : Nat) : Int) - 1) + ((mag.log2 : Nat) : Int) - ((Ieee.double.fractionBits : Nat) : Int)) Ieee.double.leastPlace = ((drop : Nat) : Int) - ((j : Nat) : Int) - 1 := by rw [d_least, d_frac, hlog]; omega
  have e2 : ((-((j : Nat) : Int) - 1) - (((drop : Nat) : Int) - ((j : Nat) : Int) - 1)).toNat = 0 := by omega
  have e3 : ((((drop : Nat) : Int) - ((j : Nat) : Int) - 1) - (-((j : Nat) : Int) - 1)).toNat = drop := by omega
  have e4 : ((((drop : Nat) : Int) - ((j : Nat) : Int) - 1) - Ieee.double.leastPlace).toNat = 1073 + drop - j := by rw [d_least]; omega
  have key := nearest_of (f := Ieee.double) (mag := mag) (place := -((j : Nat) : Int) - 1) (last := ((drop : Nat) : Int) - ((j : Nat) : Int) - 1) (kept := kept) (by omega) e1 (by rw [e2, e3, Nat.shiftLeft_zero]; exact hk) (by rw [e4, d_binade, d_inf]; omega)
  rw [e4, d_binade] at key
  exact key
theorem div_up {a b k : Nat} (hb : 0 < b) (d : Nat) : (a * 2 ^ k / b) * 2 ^ d ≤ a * 2 ^ (k + d) / b := by
  rw [Nat.le_div_iff_mul_le hb, Nat.pow_add, ← Nat.mul_assoc]
  calc a * 2 ^ k / b * 2 ^ d * b = (a * 2 ^ k / b * b) * 2 ^ d := by rw [Nat.mul_right_comm]
    _ ≤ _ := Nat.mul_le_mul_right _ (Nat.div_mul_le_self _ _)
theorem div_half {a b k : Nat} (hb : 0 < b) : a * 2 ^ (k + 1) / b / 2 = a * 2 ^ k / b ∧ (decide (0 < a * 2 ^ k % b) = (decide (0 < a * 2 ^ (k + 1) % b) || a * 2 ^ (k + 1) / b % 2 == 1)) := by
  rw [Nat.pow_succ, ← Nat.mul_assoc]
  generalize a * 2 ^ k = z
  have h1 := Nat.div_add_mod z b
  have h2 := Nat.mod_lt z hb
  generalize hq : z / b = q at *
  generalize hr : z % b = r at *
  have hz : z * 2 = b * (2 * q) + 2 * r := by rw [← h1, Nat.add_mul, Nat.mul_comm 2 q, ← Nat.mul_assoc, Nat.mul_comm r 2]
  rcases Nat.lt_or_ge (2 * r) b with h | h
  · have e1 : z * 2 / b = 2 * q := by rw [hz, Nat.mul_add_div hb, Nat.div_eq_of_lt h]; rfl
    have e2 : z * 2 % b = 2 * r := by rw [hz, Nat.mul_add_mod, Nat.mod_eq_of_lt h]
    rw [e1, e2]
    refine ⟨by omega, ?_⟩
    have : (2 * q) % 2 = 0 := by omega
    rw [this]
    rcases Nat.eq_zero_or_pos r with e | e
    · simp [e]
    · simp [e]
  · have e1 : z * 2 / b = 2 * q + 1 := by
      rw [hz, show b * (2 * q) + 2 * r = b * (2 * q + 1) + (2 * r - b) by rw [Nat.mul_add]; omega, Nat.mul_add_div hb, Nat.div_eq_of_lt (by omega)]
    rw [e1]
    refine ⟨by omega, ?_⟩
    have : (2 * q + 1) % 2 = 1 := by omega
    rw [this]
    have hr0 : 0 < r := by omega
    simp [hr0]
theorem lo_bd {a b c la lb j : Nat} (hA : 2 ^ la ≤ a) (hB : b < 2 ^ (lb + 1)) (e : c + (lb + 1) = la + j) : 2 ^ c * b ≤ a * 2 ^ j :=
  calc 2 ^ c * b ≤ 2 ^ c * 2 ^ (lb + 1) := Nat.mul_le_mul (Nat.le_refl _) (Nat.le_of_lt hB)
    _ = 2 ^ la * 2 ^ j := by rw [← Nat.pow_add, ← Nat.pow_add, e]
    _ ≤ a * 2 ^ j := Nat.mul_le_mul hA (Nat.le_refl _)
theorem hi_bd {a b c la lb j : Nat} (hA : a < 2 ^ (la + 1)) (hB : 2 ^ lb ≤ b) (e : la + 1 + j = c + lb) : a * 2 ^ j < 2 ^ c * b :=
  calc a * 2 ^ j < 2 ^ (la + 1) * 2 ^ j := Nat.mul_lt_mul_of_pos_right hA (Nat.two_pow_pos _)
    _ = 2 ^ c * 2 ^ lb := by rw [← Nat.pow_add, ← Nat.pow_add, e]
    _ ≤ 2 ^ c * b := Nat.mul_le_mul (Nat.le_refl _) hB
theorem p53 : 9007199254740992 = 2 ^ 53 := by decide
theorem p55 : 36028797018963968 = 2 ^ 55 := by decide
/-- what the division gives -/
theorem div_ratio {a b k : Nat} (ha : 0 < a) (ha2 : a < 9007199254740992) (hb : 0 < b) (hb2 : b < 9007199254740992) (h1 : 9007199254740992 ≤ a * 2 ^ k / b) (h2 : a * 2 ^ k / b < 18014398509481984) (hk : k ≤ 500) :
    Ieee.double.div (near a) (near b) = some ((1075 - k) * 4503599627370496 + rndQ (a * 2 ^ k / b) (decide (0 < a * 2 ^ k % b))) := by
  obtain ⟨la, ma1, ma2⟩ := mant ha ha2
  obtain ⟨lb, mb1, mb2⟩ := mant hb hb2
  have lga : (a * 2 ^ (52 - a.log2)).log2 = 52 := log2_eq ma1 ma2
  have lgb : (b * 2 ^ (52 - b.log2)).log2 = 52 := log2_eq mb1 mb2
  obtain ⟨j, hj⟩ : ∃ j, j = 54 + b.log2 - a.log2 := ⟨_, rfl⟩
  have e0 : (a * 2 ^ (52 - a.log2)) <<< 54 = (a * 2 ^ j) * 2 ^ (52 - b.log2) := by
    rw [Nat.shiftLeft_eq, Nat.mul_assoc, Nat.mul_assoc, ← Nat.pow_add, ← Nat.pow_add]; congr 2; omega
  have c0 := Nat.two_pow_pos (52 - b.log2)
  have eq1 : (a * 2 ^ j) * 2 ^ (52 - b.log2) / (b * 2 ^ (52 - b.log2)) = a * 2 ^ j / b := Nat.mul_div_mul_right _ _ c0
  have eq2 : (a * 2 ^ j) * 2 ^ (52 - b.log2) % (b * 2 ^ (52 - b.log2)) = (a * 2 ^ j % b) * 2 ^ (52 - b.log2) := Nat.mul_mod_mul_right _ _ _
  have es : ((a * 2 ^ j % b) * 2 ^ (52 - b.log2) != 0) = decide (0 < a * 2 ^ j % b) := by
    rcases Nat.eq_zero_or_pos (a * 2 ^ j % b) with e | e
    · rw [e]; simp
    · have : 0 < (a * 2 ^ j % b) * 2 ^ (52 - b.log2) := Nat.mul_pos e c0
      rw [decide_eq_true e, bne_iff_ne]; omega
  have hA := log2_bd ha
  have hB := log2_bd hb
  have lo : 9007199254740992 ≤ a * 2 ^ j / b := by
    rw [Nat.le_div_iff_mul_le hb]
    rw [p53]
    exact lo_bd hA.1 hB.2 (by omega)
  have hi : a * 2 ^ j / b < 36028797018963968 := by
    rw [Nat.div_lt_iff_lt_mul hb, p55]
    exact hi_bd hA.2 hB.1 (by omega)
  have hjk : j = k ∨ j = k + 1 := by
    rcases Nat.lt_or_ge j k with h | h
    · have := div_up (a := a) (k := j) hb (k - j)
      rw [show j + (k - j) = k by omega] at this
      have h3 : 2 ^ 1 ≤ 2 ^ (k - j) := Nat.pow_le_pow_right (by decide) (by omega)
      have h4 : 9007199254740992 * 2 ≤ a * 2 ^ j / b * 2 ^ (k - j) := Nat.mul_le_mul lo h3
      omega
    · rcases Nat.lt_or_ge (k + 1) j with h' | h'
      · have := div_up (a := a) (k := k) hb (j - k)
        rw [show k + (j - k) = j by omega] at this
        have h3 : 2 ^ 2 ≤ 2 ^ (j - k) := Nat.pow_le_pow_right (by decide) (by omega)
        have h4 : 9007199254740992 * 4 ≤ a * 2 ^ k / b * 2 ^ (j - k) := Nat.mul_le_mul h1 h3
        omega
      · omega
  unfold Ieee.Format.div
  rw [near_read ha ha2, near_read hb hb2, quotient_of (by omega), lga, lgb, d_frac]
  have em : 52 + 2 + 52 - 52 = 54 := by decide
  rw [em, e0, eq1, eq2, es]
  have ep : (((a.log2 : Nat) : Int) - 52 - (((b.log2 : Nat) : Int) - 52) - ((54 : Nat) : Int) - 1) = -((j : Nat) : Int) - 1 := by omega
  rw [ep, Option.map_some]
  have ef : (false ^^ false) = false := rfl
  rw [ef]
  have et : (decide (0 < a * 2 ^ j % b)).toNat ≤ 1 := Bool.toNat_le _
  have ed : decide ((decide (0 < a * 2 ^ j % b)).toNat = 1) = decide (0 < a * 2 ^ j % b) := by cases decide (0 < a * 2 ^ j % b) <;> rfl
  rcases hjk with e | e
  · subst e
    obtain ⟨c1, c2⟩ := cut_two et h1 h2
    rw [ed] at c2
    rw [write_of (drop := 2) (by omega) c1 (by omega) (by omega) c2 (rndQ_le h2)]
  · have ek : k = j - 1 := by omega
    obtain ⟨d1, d2⟩ := div_half (a := a) (b := b) (k := k) hb
    rw [← e] at d1 d2
    obtain ⟨c1, c2⟩ := cut_three et (by omega) hi
    rw [ed, ← d2, d1] at c2
    rw [write_of (drop := 3) (by omega) c1 (by omega) (by omega) c2 (rndQ_le h2), show 1073 + 3 - j = 1075 - k by omega]
theorem near_zero : near 0 = 0 := by decide +kernel
theorem div_zero {b : Nat} (hb : 0 < b) (hb2 : b < 9007199254740992) : Ieee.double.div (near 0) (near b) = some 0 := by
  obtain ⟨lb, mb1, mb2⟩ := mant hb hb2
  unfold Ieee.Format.div
  have e : Ieee.double.read (near 0) = .number false 0 (-1074) := by decide +kernel
  rw [near_read hb hb2, e, quotient_of (by omega), Option.map_some, Nat.zero_shiftLeft, Nat.zero_div, Nat.zero_mod]
  have e2 : 2 * 0 + ((0 : Nat) != 0).toNat = 0 := by decide
  rw [e2]
  have e3 : ∀ p, Ieee.double.write (.number (false ^^ false) 0 p) = 0 := by
    intro p
    show Ieee.double.nearest _ 0 p = 0
    unfold Ieee.Format.nearest
    rw [if_pos rfl]; rfl
  rw [e3]
def ratN (a b : Nat) : Nat := (Ieee.double.div (near a) (near b)).getD 0
theorem ratN_k {a b : Nat} (ha : 0 < a) (ha2 : a < 9007199254740992) (hb : 0 < b) (hb2 : b < 9007199254740992) : ∃ k, 9007199254740992 ≤ a * 2 ^ k / b ∧ a * 2 ^ k / b < 18014398509481984 ∧ k ≤ 500 := by
  have hA := log2_bd ha
  have hB := log2_bd hb
  obtain ⟨la, _, _⟩ := mant ha ha2
  obtain ⟨lb, _, _⟩ := mant hb hb2
  have lo : 9007199254740992 ≤ a * 2 ^ (54 + b.log2 - a.log2) / b := by
    rw [Nat.le_div_iff_mul_le hb]
    rw [p53]
    exact lo_bd hA.1 hB.2 (by omega)
  have hi : a * 2 ^ (54 + b.log2 - a.log2) / b < 36028797018963968 := by
    rw [Nat.div_lt_iff_lt_mul hb, p55]
    exact hi_bd hA.2 hB.1 (by omega)
  rcases Nat.lt_or_ge (a * 2 ^ (54 + b.log2 - a.log2) / b) 18014398509481984 with h | h
  · exact ⟨_, lo, h, by omega⟩
  · obtain ⟨d1, _⟩ := div_half (a := a) (b := b) (k := 53 + b.log2 - a.log2) hb
    rw [show 53 + b.log2 - a.log2 + 1 = 54 + b.log2 - a.log2 by omega] at d1
    exact ⟨53 + b.log2 - a.log2, by omega, by omega, by omega⟩
theorem ratN_some {a b : Nat} (ha2 : a < 9007199254740992) (hb : 0 < b) (hb2 : b < 9007199254740992) : Ieee.double.div (near a) (near b) = some (ratN a b) := by
  rcases Nat.eq_zero_or_pos a with rfl | ha
  · unfold ratN; rw [div_zero hb hb2]; rfl
  · obtain ⟨k, h1, h2, h3⟩ := ratN_k ha ha2 hb hb2
    unfold ratN; rw [div_ratio ha ha2 hb hb2 h1 h2 h3]; rfl
theorem ratN_of {a b k : Nat} (ha : 0 < a) (ha2 : a < 9007199254740992) (hb : 0 < b) (hb2 : b < 9007199254740992) (h1 : 9007199254740992 ≤ a * 2 ^ k / b) (h2 : a * 2 ^ k / b < 18014398509481984) (hk : k ≤ 500) :
    ratN a b = (1075 - k) * 4503599627370496 + rndQ (a * 2 ^ k / b) (decide (0 < a * 2 ^ k % b)) := by
  unfold ratN; rw [div_ratio ha ha2 hb hb2 h1 h2 hk]; rfl
theorem ratN_zero {b : Nat} (hb : 0 < b) (hb2 : b < 9007199254740992) : ratN 0 b = 0 := by unfold ratN; rw [div_zero hb hb2]; rfl
end Go.RealQ
