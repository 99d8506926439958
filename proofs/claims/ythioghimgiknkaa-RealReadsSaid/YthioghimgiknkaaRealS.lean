/-
  A text with a point stands between the whole numbers about it. No condition beyond those that each theorem names.
-/
import Derived.Test.YthioghimgiknkaaRealR
import Derived.Test.YthioghimgiknkaaRealB
namespace Go.RealQ
open Go.Gw Go.RealP
set_option linter.unusedVariables false
set_option linter.unusedSimpArgs false
theorem rat_int {w k : Nat} (h : 0 < w) (hw : w < 9007199254740992) (hk1 : 1 ≤ k) (h1 : 9007199254740992 ≤ w * 2 ^ k) (h2 : w * 2 ^ k < 18014398509481984) (hk : k ≤ 500) : ratN w 1 = (1075 - k) * 4503599627370496 + w * 2 ^ (k - 1) := by
  rw [ratN_of h hw (by decide) (by decide) (by rw [Nat.div_one]; exact h1) (by rw [Nat.div_one]; exact h2) hk, Nat.div_one, Nat.mod_one]
  obtain ⟨m, rfl⟩ : ∃ m, k = m + 1 := ⟨k - 1, by omega⟩
  rw [Nat.add_sub_cancel, pow_up, rndQ_same (by omega)]
  omega
theorem rnd_bd (q : Nat) (s : Bool) : q / 2 ≤ rndQ q s ∧ rndQ q s ≤ q / 2 + 1 := by unfold rndQ; split <;> omega
theorem rat_cmp {w n : Nat} (hw : w < 4294967296) (hn : n < 1000) : ratN w 1 ≤ ratN (w * 1000 + n) 1000 ∧ ratN (w * 1000 + n) 1000 < ratN (w + 1) 1 ∧ (ratN (w * 1000 + n) 1000 = ratN w 1 ↔ n = 0) := by
  have p52 : (2 : Nat) ^ 52 = 4503599627370496 := by decide
  have p54 : (2 : Nat) ^ 54 = 18014398509481984 := by decide
  rcases Nat.eq_zero_or_pos w with rfl | hw0
  · rw [ratN_zero (by decide) (by decide)]
    have hb : ratN (0 + 1) 1 = 4607182418800017408 := by
      rw [rat_int (w := 0 + 1) (k := 53) (by decide) (by decide) (by decide) (by decide) (by decide) (by decide)]
    rw [hb]
    rcases Nat.eq_zero_or_pos n with rfl | hn0
    · rw [show 0 * 1000 + 0 = 0 by rfl, ratN_zero (by decide) (by decide)]; decide
    · rw [show 0 * 1000 + n = n by omega]
      obtain ⟨k, h1, h2, h3, e⟩ := ratN_pos_k (a := n) (b := 1000) hn0 (by omega) (by decide) (by decide)
      have hr := rnd_bd (n * 2 ^ k / 1000) (decide (0 < n * 2 ^ k % 1000))
      have hle := rndQ_le (s := decide (0 < n * 2 ^ k % 1000)) h2
      have hk : 54 ≤ k := by
        rcases Nat.lt_or_ge k 54 with g | g
        · have h4 : 2 ^ k ≤ 2 ^ 53 := Nat.pow_le_pow_right (by decide) (by omega)
          rw [← p53] at h4
          have h5 : n * 2 ^ k ≤ 999 * 9007199254740992 := Nat.mul_le_mul (by omega) h4
          omega
        · exact g
      rw [e]
      rcases Nat.lt_or_ge 54 k with g | g
      · omega
      · obtain rfl : k = 54 := by omega
        rw [p54] at *
        omega
  · have hl := log2_bd hw0
    have hL : w.log2 ≤ 31 := by
      have := (Nat.log2_lt (show w ≠ 0 by omega)).2 (show w < 2 ^ 32 by omega)
      omega
    obtain ⟨k, hk⟩ : ∃ k, k = 52 - w.log2 := ⟨_, rfl⟩
    have hP : 2 ^ 21 ≤ 2 ^ k := Nat.pow_le_pow_right (by decide) (by omega)
    have e21 : (2 : Nat) ^ 21 = 2097152 := by decide
    rw [e21] at hP
    have lo : 4503599627370496 ≤ w * 2 ^ k := by
      rw [← p52]
      calc 2 ^ 52 = 2 ^ w.log2 * 2 ^ k := by rw [← Nat.pow_add]; congr 1; omega
        _ ≤ _ := Nat.mul_le_mul hl.1 (Nat.le_refl _)
    have hi : (w + 1) * 2 ^ k ≤ 9007199254740992 := by
      rw [p53]
      calc (w + 1) * 2 ^ k ≤ 2 ^ (w.log2 + 1) * 2 ^ k := Nat.mul_le_mul hl.2 (Nat.le_refl _)
        _ = 2 ^ 53 := by rw [← Nat.pow_add]; congr 1; omega
    have ew : w * 2 ^ (k + 1) = 2 * (w * 2 ^ k) := pow_up w k
    have ew1 : (w + 1) * 2 ^ (k + 1) = 2 * ((w + 1) * 2 ^ k) := pow_up (w + 1) k
    have es : (w + 1) * 2 ^ k = w * 2 ^ k + 2 ^ k := Nat.succ_mul ..
    have ha : ratN w 1 = (1074 - k) * 4503599627370496 + w * 2 ^ k := by
      rw [rat_int (k := k + 1) hw0 (by omega) (by omega) (by omega) (by omega) (by omega), Nat.add_sub_cancel]; omega
    have hb : ratN (w + 1) 1 = (1074 - k) * 4503599627370496 + (w + 1) * 2 ^ k := by
      rcases Nat.lt_or_ge ((w + 1) * 2 ^ k) 9007199254740992 with g | g
      · rw [rat_int (k := k + 1) (by omega) (by omega) (by omega) (by omega) (by omega) (by omega), Nat.add_sub_cancel]; omega
      · have g2 : (w + 1) * 2 ^ k = 9007199254740992 := by omega
        obtain ⟨m, hm⟩ : ∃ m, k = m + 1 := ⟨k - 1, by omega⟩
        have e3 : (w + 1) * 2 ^ k = 2 * ((w + 1) * 2 ^ m) := by rw [hm]; exact pow_up (w + 1) m
        rw [rat_int (k := k) (by omega) (by omega) (by omega) (by omega) (by omega) (by omega)]
        have e4 : (w + 1) * 2 ^ (k - 1) = 4503599627370496 := by rw [hm, Nat.add_sub_cancel]; omega
        rw [e4, g2]; omega
    -- the middle one
    have ez : (w * 1000 + n) * 2 ^ (k + 1) = n * 2 ^ (k + 1) + w * 2 ^ (k + 1) * 1000 := by rw [Nat.add_mul, Nat.mul_right_comm, Nat.add_comm]
    have eq : (w * 1000 + n) * 2 ^ (k + 1) / 1000 = n * 2 ^ (k + 1) / 1000 + w * 2 ^ (k + 1) := by rw [ez, Nat.add_mul_div_right _ _ (by decide)]
    have em : (w * 1000 + n) * 2 ^ (k + 1) % 1000 = n * 2 ^ (k + 1) % 1000 := by rw [ez, Nat.add_mul_mod_self_right]
    have e2k : (2 : Nat) ^ (k + 1) = 2 * 2 ^ k := by rw [Nat.pow_succ]; omega
    have n1 : n * 2 ^ (k + 1) ≤ 999 * 2 ^ (k + 1) := Nat.mul_le_mul (by omega) (Nat.le_refl _)
    have n2 : 0 < n → 1 * 2 ^ (k + 1) ≤ n * 2 ^ (k + 1) := fun h => Nat.mul_le_mul h (Nat.le_refl _)
    have n3 : n = 0 → n * 2 ^ (k + 1) = 0 := fun h => by rw [h, Nat.zero_mul]
    have hx := ratN_of (a := w * 1000 + n) (b := 1000) (k := k + 1) (by omega) (by omega) (by decide) (by decide) (by rw [eq]; omega) (by rw [eq]; omega) (by omega)
    have hr := rnd_bd ((w * 1000 + n) * 2 ^ (k + 1) / 1000) (decide (0 < (w * 1000 + n) * 2 ^ (k + 1) % 1000))
    rw [hx, ha, hb]
    have h0 : n = 0 → rndQ ((w * 1000 + n) * 2 ^ (k + 1) / 1000) (decide (0 < (w * 1000 + n) * 2 ^ (k + 1) % 1000)) = w * 2 ^ k := by
      intro h
      rw [rndQ_same (by rw [eq, em, n3 h, ew]; omega), eq, n3 h, ew]; omega
    generalize rndQ ((w * 1000 + n) * 2 ^ (k + 1) / 1000) (decide (0 < (w * 1000 + n) * 2 ^ (k + 1) % 1000)) = r at *
    have hc : 1075 - (k + 1) = 1074 - k := by omega
    rw [hc]
    refine ⟨by omega, ?_, ?_⟩
    · rcases Nat.eq_zero_or_pos n with g | g
      · have := h0 g; omega
      · omega
    · rcases Nat.eq_zero_or_pos n with g | g
      · have := h0 g; omega
      · have := n2 g; omega
/-! ### digits -/
def decS (n : Nat) : List UInt8 := if n < 10 then [UInt8.ofNat (48 + n)] else decS (n / 10) ++ [UInt8.ofNat (48 + n % 10)]
termination_by n
decreasing_by omega
def decH (n : Nat) : List UInt8 := if n > 9 then decS (n / 10) else []
theorem decS_eq (n : Nat) : decS n = decH n ++ [UInt8.ofNat (48 + n % 10)] := by
  rw [decS]; unfold decH
  split
  · rw [if_neg (by omega), show n % 10 = n by omega]; rfl
  · rw [if_pos (by omega)]
theorem decS_len : ∀ (e n : Nat), n < 10 ^ (e + 1) → 1 ≤ (decS n).length ∧ (decS n).length ≤ e + 1
  | 0, n, h => by rw [decS, if_pos (by simpa using h)]; simp
  | e + 1, n, h => by
    rw [decS]
    split
    · simp
    · have := decS_len e (n / 10) (by rw [Nat.div_lt_iff_lt_mul (by decide)]; rw [Nat.pow_succ] at h; exact h)
      simp only [List.length_append, List.length_cons, List.length_nil]; omega
theorem dec_byte {d : Nat} (h : d ≤ 9) : (UInt8.ofNat (48 + d)).toNat = 48 + d := by simp; omega
theorem scan_one {p : Bool} {N d v : Nat} {t : List UInt8} (hv : v ≤ 9) (hd : d < most p) : scan p N d (UInt8.ofNat (48 + v) :: t) = scan p (10 * N + v) (d + 1) t := by
  have hb := dec_byte hv
  rw [scan, if_neg (by omega), if_pos ⟨by omega, by omega, hd⟩, hb, show 48 + v - 48 = v by omega]
theorem scan_dec (p : Bool) (n : Nat) : ∀ (N d : Nat) (t : List UInt8), d + (decS n).length ≤ most p → scan p N d (decS n ++ t) = scan p (N * 10 ^ (decS n).length + n) (d + (decS n).length) t := by
  induction n using Nat.strongRecOn with
  | _ n ih =>
    intro N d t h
    rw [decS] at h ⊢
    split at h
    · rename_i h10
      rw [if_pos h10]
      simp only [List.cons_append, List.nil_append, List.length_cons, List.length_nil, Nat.zero_add, Nat.pow_one] at *
      rw [scan_one (by omega) (by omega), Nat.mul_comm]
    · rename_i h10
      rw [if_neg h10]
      simp only [List.length_append, List.length_cons, List.length_nil, Nat.zero_add] at h ⊢
      rw [List.append_assoc, ih (n / 10) (by omega) N d _ (by omega)]
      show scan p _ _ (UInt8.ofNat (48 + n % 10) :: t) = _
      rw [scan_one (by omega) (by omega), ← Nat.add_assoc]
      congr 1
      rw [Nat.pow_succ, ← Nat.mul_assoc]
      generalize N * 10 ^ (decS (n / 10)).length = z
      omega
theorem scan_zeros (p : Bool) (N d : Nat) (t : List UInt8) : ∀ j, d + j ≤ most p → scan p N d (List.replicate j 48 ++ t) = scan p (N * 10 ^ j) (d + j) t := by
  intro j
  induction j generalizing N d with
  | zero => intro _; simp
  | succ j ih =>
    intro h
    rw [List.replicate_succ, List.cons_append, show (48 : UInt8) = UInt8.ofNat (48 + 0) by rfl, scan_one (by decide) (by omega), show UInt8.ofNat (48 + 0) = (48 : UInt8) by rfl, ih _ _ (by omega)]
    congr 1
    · rw [Nat.pow_succ, Nat.add_zero, Nat.mul_comm 10 N, Nat.mul_assoc, Nat.mul_comm 10]
    · omega
/-- three digits -/
def dec3 (n : Nat) : List UInt8 := List.replicate (3 - (decS n).length) 48 ++ decS n
theorem dec3_len {n : Nat} (h : n < 1000) : (dec3 n).length = 3 := by
  have := decS_len 2 n (by simpa using h)
  unfold dec3; rw [List.length_append, List.length_replicate]; omega
theorem scan_dec3 {n : Nat} (h : n < 1000) (N : Nat) : scan true N 0 (dec3 n) = some (N * 1000 + n, 3) := by
  have hl := decS_len 2 n (by simpa using h)
  unfold dec3
  rw [scan_zeros true N 0 _ _ (by unfold most; simp only [cond_true]; omega)]
  have := scan_dec true n (N * 10 ^ (3 - (decS n).length)) (0 + (3 - (decS n).length)) [] (by unfold most; simp only [cond_true]; omega)
  rw [List.append_nil] at this
  rw [this, scan, if_neg (by omega), Nat.mul_assoc, ← Nat.pow_add, show 3 - (decS n).length + (decS n).length = 3 by omega]
  simp only [cond_true]
  congr 2
  omega
theorem decS_lenW {w : Nat} (h : w ≤ 4294967296) : 1 ≤ (decS w).length ∧ (decS w).length ≤ 10 := decS_len 9 w (by simp; omega)
theorem scan_text {w n : Nat} (hw : w ≤ 4294967296) (hn : n < 1000) : scan false 0 0 (decS w ++ [46] ++ dec3 n) = some (w * 1000 + n, 3) := by
  have hl := decS_lenW hw
  rw [List.append_assoc, scan_dec false w 0 0 _ (by unfold most; simp only [cond_false]; omega)]
  show scan false _ _ ((46 : UInt8) :: dec3 n) = _
  rw [scan, if_pos ⟨by decide, rfl, by omega⟩, scan_dec3 hn]
  simp
theorem scan_text0 {w n : Nat} (hw : w ≤ 4294967296) (hn : n < 1000) : scan false 0 0 ([48, 48] ++ decS w ++ [46] ++ dec3 n) = some (w * 1000 + n, 3) := by
  have hl := decS_lenW hw
  have e : [48, 48] ++ decS w ++ [46] ++ dec3 n = List.replicate 2 48 ++ (decS w ++ ([46] ++ dec3 n)) := by simp [List.append_assoc]
  rw [e, scan_zeros false 0 0 _ 2 (by decide), scan_dec false w _ _ _ (by unfold most; simp only [cond_false]; omega)]
  show scan false _ _ ((46 : UInt8) :: dec3 n) = _
  rw [scan, if_pos ⟨by decide, rfl, by omega⟩, scan_dec3 hn]
  simp
theorem scan_int {w : Nat} (hw : w ≤ 4294967296) : scan false 0 0 (decS w) = some (w, 0) := by
  have hl := decS_lenW hw
  have := scan_dec false w 0 0 [] (by unfold most; simp only [cond_false]; omega)
  rw [List.append_nil] at this
  rw [this, scan, if_neg (by omega)]
  simp
theorem decS_head (n : Nat) : ∃ v t, v ≤ 9 ∧ decS n = UInt8.ofNat (48 + v) :: t := by
  induction n using Nat.strongRecOn with
  | _ n ih =>
    rw [decS]
    split
    · exact ⟨n, [], by omega, rfl⟩
    · obtain ⟨v, t, h1, h2⟩ := ih (n / 10) (by omega)
      exact ⟨v, t ++ [UInt8.ofNat (48 + n % 10)], h1, by rw [h2]; rfl⟩
theorem parse_dig {s t : List UInt8} {v n j : Nat} (hv : v ≤ 9) (hs : s = UInt8.ofNat (48 + v) :: t) (h : scan false 0 0 s = some (n, j)) : parseV s = ratN n (10 ^ j) ∧ parseE s = 0 := by
  have hb := dec_byte hv
  have hne : ∀ (c : UInt8) (l : List UInt8), c.toNat ≠ 48 + v → ¬ s = c :: l := fun c l hc e => by
    rw [hs] at e; simp only [List.cons.injEq] at e; rw [← e.1, hb] at hc; exact hc rfl
  have hm : minus s = false := by
    apply minus_no
    rw [beq_eq_false_iff_ne]
    rw [hs]
    show ((UInt8.ofNat (48 + v)).toNat : Int) ≠ 45
    rw [hb]; omega
  obtain ⟨e1, e2⟩ := parse_pos (hne 110 _ (by show 110 ≠ _; omega)) (hne 105 _ (by show 105 ≠ _; omega)) (hne 45 _ (by show 45 ≠ _; omega)) hm
  rw [List.drop_zero, h] at e1 e2
  exact ⟨by rw [e1]; simp [valP], by rw [e2]; rfl⟩
theorem parse_mdig {s t : List UInt8} {v n j : Nat} (hv : v ≤ 9) (hs : s = UInt8.ofNat (48 + v) :: t) (h : scan false 0 0 s = some (n, j)) : parseV ([45] ++ s) = ratN n (10 ^ j) + 9223372036854775808 ∧ parseE ([45] ++ s) = 0 := by
  have hb := dec_byte hv
  have e0 : [45] ++ s = 45 :: s := rfl
  rw [e0]
  have h3 : ¬ (45 :: s) = ([45, 105, 110, 102] : List UInt8) := fun e => by
    rw [hs] at e; simp only [List.cons.injEq] at e
    have := congrArg UInt8.toNat e.2.1
    rw [hb] at this
    have h105 : (105 : UInt8).toNat = 105 := rfl
    omega
  have hm : minus (45 :: s) = true := minus_yes (by simp) (by rfl)
  obtain ⟨e1, e2⟩ := parse_neg (s := 45 :: s) (by simp) (by simp) h3 hm
  have ed : List.drop 1 ((45 : UInt8) :: s) = s := rfl
  rw [ed, List.drop_zero, h] at e1 e2
  exact ⟨by rw [e1]; simp [valP], by rw [e2]; rfl⟩
section
variable {w n : Nat} (hw : w < 4294967296) (hn : n < 1000)
theorem read_x (hw : w < 4294967296) (hn : n < 1000) : parseV (decS w ++ [46] ++ dec3 n) = ratN (w * 1000 + n) 1000 ∧ parseE (decS w ++ [46] ++ dec3 n) = 0 := by
  obtain ⟨v, t, h1, h2⟩ := decS_head w
  have := parse_dig (s := decS w ++ [46] ++ dec3 n) (t := t ++ [46] ++ dec3 n) h1 (by rw [h2]; rfl) (scan_text (by omega) hn)
  simpa using this
theorem read_y (hw : w < 4294967296) (hn : n < 1000) : parseV ([45] ++ decS w ++ [46] ++ dec3 n) = ratN (w * 1000 + n) 1000 + 9223372036854775808 ∧ parseE ([45] ++ decS w ++ [46] ++ dec3 n) = 0 := by
  obtain ⟨v, t, h1, h2⟩ := decS_head w
  have := parse_mdig (s := decS w ++ [46] ++ dec3 n) (t := t ++ [46] ++ dec3 n) h1 (by rw [h2]; rfl) (scan_text (by omega) hn)
  rw [List.append_assoc, List.append_assoc]
  rw [List.append_assoc] at this
  simpa using this
theorem read_z (hw : w < 4294967296) (hn : n < 1000) : parseV ([48, 48] ++ decS w ++ [46] ++ dec3 n) = ratN (w * 1000 + n) 1000 ∧ parseE ([48, 48] ++ decS w ++ [46] ++ dec3 n) = 0 := by
  have := parse_dig (s := [48, 48] ++ decS w ++ [46] ++ dec3 n) (v := 0) (t := [48] ++ decS w ++ [46] ++ dec3 n) (by decide) (by rfl) (scan_text0 (by omega) hn)
  simpa using this
end
theorem read_i {w : Nat} (hw : w ≤ 4294967296) : parseV (decS w) = ratN w 1 ∧ parseE (decS w) = 0 := by
  obtain ⟨v, t, h1, h2⟩ := decS_head w
  have := parse_dig (s := decS w) h1 h2 (scan_int hw)
  simpa using this
theorem key_rat {a : Nat} (h : a < 9218868437227405312) : keyN a = a + 9223372036854775808 := by
  have hr : rk a = a := by unfold rk W63; omega
  unfold keyN
  have hn : nan a = false := by unfold nan INF; rw [hr]; exact decide_eq_false (by omega)
  rw [hn, hr]
  unfold W63
  rw [if_neg (by simp)]
  split
  · omega
  · rw [if_neg (by omega)]
theorem less_rat {a b : Nat} (ha : a < 9218868437227405312) (hb : b < 9218868437227405312) : lessB a b = decide (a < b) := by
  unfold lessB; rw [key_rat ha, key_rat hb, decide_eq_decide]; omega
end Go.RealQ
namespace Go.RealQ
open Go.Gw
theorem dec_step {n : Nat} {t X : List UInt8} (h : decH n ++ t = X) (h2 : n > 9) : decH (n / 10) ++ ([UInt8.ofNat (48 + n / 10 % 10)] ++ t) = X := by
  rw [← h, ← List.append_assoc, ← decS_eq]; unfold decH; rw [if_pos h2]
theorem dec_done {n : Nat} {t X : List UInt8} (h : decH n ++ t = X) (h2 : ¬ n > 9) : t = X := by
  rw [← h]; unfold decH; rw [if_neg h2]; rfl
theorem pad_done {n j : Nat} (_hn : n < 1000) (hj : j + (decS n).length ≤ 3) (h : ¬ (List.replicate j (48 : UInt8) ++ decS n).length < 3) : List.replicate j 48 ++ decS n = dec3 n := by
  rw [List.length_append, List.length_replicate] at h
  unfold dec3; congr 2; omega
end Go.RealQ
