/-
  The number of a text: as the program goes over it, and as the document's digits say. No condition beyond those that each theorem names.
-/
import Derived.Test.YthioghimgiknkaaRealQ
import Derived.Test.YthioghimgiknkaaRealP
import Derived.Test.YthioghimgiknkaaFacts
namespace Go.RealQ
open Go.Gw
set_option linter.unusedVariables false
set_option linter.unusedSimpArgs false
def most (p : Bool) : Nat := bif p then 3 else 12
/-- what stands in the text: a number and how many places it has; none: no number -/
def scan (p : Bool) (n d : Nat) : List UInt8 → Option (Nat × Nat)
  | [] => if d = 0 then none else some (n, bif p then d else 0)
  | c :: t =>
    if c.toNat = 46 ∧ p = false ∧ 0 < d then scan true n 0 t
    else if 48 ≤ c.toNat ∧ c.toNat ≤ 57 ∧ d < most p then scan p (10 * n + (c.toNat - 48)) (d + 1) t
    else none
theorem drop_at {s : List UInt8} {k : Nat} (h : k < s.length) : ∃ c, s.drop k = c :: s.drop (k + 1) ∧ bl s k = ((c.toNat : Nat) : Int) := by
  refine ⟨s[k], List.drop_eq_getElem_cons h, ?_⟩
  unfold bl
  rw [List.getD_eq_getElem?_getD, List.getElem?_eq_getElem h]; rfl
section
variable {s : List UInt8} {p : Bool} {n d k : Nat}
theorem scan_end (h : ¬ k < s.length) : scan p n d (s.drop k) = if d = 0 then none else some (n, bif p then d else 0) := by
  rw [List.drop_eq_nil_of_le (by omega)]; rfl
theorem scan_point (h : k < s.length) (h1 : bl s k = 46) (h2 : 0 < d) : scan false n d (s.drop k) = scan true n 0 (s.drop (k + 1)) := by
  obtain ⟨c, e, hc⟩ := drop_at h
  rw [e, scan, if_pos ⟨by omega, rfl, h2⟩]
theorem scan_digit (h : k < s.length) (h1 : 48 ≤ bl s k) (h2 : bl s k ≤ 57) (h3 : d < most p) : scan p n d (s.drop k) = scan p (10 * n + ((bl s k).toNat - 48)) (d + 1) (s.drop (k + 1)) := by
  obtain ⟨c, e, hc⟩ := drop_at h
  rw [e, scan, if_neg (by omega), if_pos ⟨by omega, by omega, h3⟩, hc]; rfl
theorem scan_none (h : k < s.length) (h1 : ¬ (bl s k = 46 ∧ p = false ∧ 0 < d)) (h2 : ¬ (48 ≤ bl s k ∧ bl s k ≤ 57 ∧ d < most p)) : scan p n d (s.drop k) = none := by
  obtain ⟨c, e, hc⟩ := drop_at h
  rw [e, scan, if_neg (fun z => h1 ⟨by omega, z.2⟩), if_neg (fun z => h2 ⟨by omega, by omega, z.2.2⟩)]
end
def valP (r : Option (Nat × Nat)) (neg : Bool) : Nat := match r with | none => 0 | some (n, j) => ratN n (10 ^ j) + (bif neg then 9223372036854775808 else 0)
def errP (r : Option (Nat × Nat)) : Int := match r with | none => 3 | some _ => 0
def minus (s : List UInt8) : Bool := decide (0 < s.length) && bl s 0 == 45
def parseV (s : List UInt8) : Nat :=
  if s = [110, 97, 110] then 9221120237041090560 else if s = [105, 110, 102] then 9218868437227405312 else if s = [45, 105, 110, 102] then 18442240474082181120
  else valP (scan false 0 0 (bif minus s then s.drop 1 else s)) (minus s)
def parseE (s : List UInt8) : Int :=
  if s = [110, 97, 110] then 0 else if s = [105, 110, 102] then 0 else if s = [45, 105, 110, 102] then 0
  else errP (scan false 0 0 (bif minus s then s.drop 1 else s))
section
variable {s : List UInt8} (h1 : ¬ s = [110, 97, 110]) (h2 : ¬ s = [105, 110, 102]) (h3 : ¬ s = [45, 105, 110, 102])
theorem parse_nan (h : s = [110, 97, 110]) : parseV s = 9221120237041090560 ∧ parseE s = 0 := by unfold parseV parseE; rw [if_pos h, if_pos h]; exact ⟨rfl, rfl⟩
include h1 in
theorem parse_inf (h : s = [105, 110, 102]) : parseV s = 9218868437227405312 ∧ parseE s = 0 := by unfold parseV parseE; rw [if_neg h1, if_neg h1, if_pos h, if_pos h]; exact ⟨rfl, rfl⟩
include h1 h2 in
theorem parse_ninf (h : s = [45, 105, 110, 102]) : parseV s = 18442240474082181120 ∧ parseE s = 0 := by unfold parseV parseE; rw [if_neg h1, if_neg h1, if_neg h2, if_neg h2, if_pos h, if_pos h]; exact ⟨rfl, rfl⟩
include h1 h2 h3 in
theorem parse_neg (h : minus s = true) : parseV s = valP (scan false 0 0 ((s.drop 1).drop 0)) true ∧ parseE s = errP (scan false 0 0 ((s.drop 1).drop 0)) := by
  unfold parseV parseE; rw [if_neg h1, if_neg h1, if_neg h2, if_neg h2, if_neg h3, if_neg h3, h]; exact ⟨rfl, rfl⟩
include h1 h2 h3 in
theorem parse_pos (h : minus s = false) : parseV s = valP (scan false 0 0 (s.drop 0)) false ∧ parseE s = errP (scan false 0 0 (s.drop 0)) := by
  unfold parseV parseE; rw [if_neg h1, if_neg h1, if_neg h2, if_neg h2, if_neg h3, if_neg h3, h]; exact ⟨rfl, rfl⟩
end
theorem sc0 : near (10 ^ 0) = 4607182418800017408 := by decide +kernel
theorem sc_up : ∀ d : Fin 3, Ieee.double.mul (near (10 ^ d.val)) 4621819117588971520 = some (near (10 ^ (d.val + 1))) := by decide +kernel
theorem sc_bd {d : Nat} (h : d ≤ 3) : 0 < 10 ^ d ∧ 10 ^ d ≤ 1000 := ⟨Nat.pow_pos (by decide), Nat.pow_le_pow_right (by decide) h⟩
theorem dec_bd {n e c : Nat} (h : n < 10 ^ e) (he : e ≤ c) : n < 10 ^ c := Nat.lt_of_lt_of_le h (Nat.pow_le_pow_right (by decide) he)
theorem dec_up {n e v : Nat} (h : n < 10 ^ e) (hv : v ≤ 9) : 10 * n + v < 10 ^ (e + 1) := by rw [Nat.pow_succ]; omega
theorem f_fmul {P : Program} {w : World} {t : TypeId} {x y r : Nat} (h : Ieee.double.mul x y = some r) : (binOp .mul t (.float .f64 x) (.float .f64 y)).run P w = .ok (.float .f64 r) w := run_float_arith w .mul t .f64 x y r h
theorem f_fquo {P : Program} {w : World} {t : TypeId} {x y r : Nat} (h : Ieee.double.div x y = some r) : (binOp .quo t (.float .f64 x) (.float .f64 y)).run P w = .ok (.float .f64 r) w := run_float_arith w .quo t .f64 x y r h
theorem ratN_pos_k {a b : Nat} (ha : 0 < a) (ha2 : a < 9007199254740992) (hb : 0 < b) (hb2 : b ≤ 1000) : ∃ k, 9007199254740992 ≤ a * 2 ^ k / b ∧ a * 2 ^ k / b < 18014398509481984 ∧ k ≤ 500 ∧ ratN a b = (1075 - k) * 4503599627370496 + rndQ (a * 2 ^ k / b) (decide (0 < a * 2 ^ k % b)) := by
  obtain ⟨k, h1, h2, h3⟩ := ratN_k ha ha2 hb (by omega)
  exact ⟨k, h1, h2, h3, ratN_of ha ha2 hb (by omega) h1 h2 h3⟩
theorem ratN_lt {a b : Nat} (ha2 : a < 9007199254740992) (hb : 0 < b) (hb2 : b ≤ 1000) : ratN a b < 9218868437227405312 := by
  rcases Nat.eq_zero_or_pos a with rfl | ha
  · rw [ratN_zero hb (by omega)]; decide
  · obtain ⟨k, h1, h2, h3, e⟩ := ratN_pos_k ha ha2 hb hb2
    have hk : 1 ≤ k := by
      rcases Nat.eq_zero_or_pos k with rfl | hk
      · rw [Nat.pow_zero, Nat.mul_one] at h1
        have := Nat.div_le_self a b
        omega
      · exact hk
    rw [e]
    have := rndQ_le (s := decide (0 < a * 2 ^ k % b)) h2
    omega
/-! ### long division -/
theorem step_lo {z b : Nat} (hb : 0 < b) (h : ¬ 2 * (z % b) ≥ b) : 2 * z / b = 2 * (z / b) ∧ 2 * z % b = 2 * (z % b) := by
  have h1 := Nat.div_add_mod z b
  have hz : 2 * z = b * (2 * (z / b)) + 2 * (z % b) := by
    calc 2 * z = 2 * (b * (z / b) + z % b) := by rw [h1]
      _ = _ := by rw [Nat.mul_add, Nat.mul_left_comm]
  constructor
  · conv => lhs; rw [hz]
    rw [Nat.mul_add_div hb, Nat.div_eq_of_lt (show 2 * (z % b) < b by omega)]; rfl
  · conv => lhs; rw [hz]
    rw [Nat.mul_add_mod, Nat.mod_eq_of_lt (show 2 * (z % b) < b by omega)]
theorem step_hi {z b : Nat} (hb : 0 < b) (h : 2 * (z % b) ≥ b) : 2 * z / b = 2 * (z / b) + 1 ∧ 2 * z % b = 2 * (z % b) - b := by
  have h1 := Nat.div_add_mod z b
  have h2 := Nat.mod_lt z hb
  have hz : 2 * z = b * (2 * (z / b) + 1) + (2 * (z % b) - b) := by
    have : 2 * z = 2 * (b * (z / b)) + 2 * (z % b) := by omega
    rw [this, Nat.mul_add, Nat.mul_left_comm]; omega
  constructor
  · conv => lhs; rw [hz]
    rw [Nat.mul_add_div hb, Nat.div_eq_of_lt (show 2 * (z % b) - b < b by omega)]
  · conv => lhs; rw [hz]
    rw [Nat.mul_add_mod, Nat.mod_eq_of_lt (show 2 * (z % b) - b < b by omega)]
theorem pow_up (a k : Nat) : a * 2 ^ (k + 1) = 2 * (a * 2 ^ k) := by rw [Nat.pow_succ, ← Nat.mul_assoc, Nat.mul_comm]
theorem k_lt {a b k : Nat} (ha : 0 < a) (hb : 0 < b) (hb2 : b ≤ 1000) (h : a * 2 ^ k / b < 9007199254740992) : k < 63 := by
  rcases Nat.lt_or_ge k 63 with h' | h'
  · exact h'
  · rw [Nat.div_lt_iff_lt_mul hb] at h
    have h2 : 2 ^ 63 ≤ 2 ^ k := Nat.pow_le_pow_right (by decide) h'
    have e : (2 : Nat) ^ 63 = 9223372036854775808 := by decide
    rw [e] at h2
    have h3 : 1 * 9223372036854775808 ≤ a * 2 ^ k := Nat.mul_le_mul ha h2
    have h4 : 9007199254740992 * b ≤ 9007199254740992 * 1000 := Nat.mul_le_mul_left _ hb2
    omega
theorem q_hi {a b k : Nat} (ha2 : a < 9007199254740992) (hb : 0 < b) (h : k = 0 ∨ a * 2 ^ (k - 1) / b < 9007199254740992) (h1 : ¬ a * 2 ^ k / b < 9007199254740992) : a * 2 ^ k / b < 18014398509481984 ∧ 1 ≤ k := by
  rcases h with rfl | h
  · have := Nat.div_le_self (a * 2 ^ 0) b
    simp only [Nat.pow_zero, Nat.mul_one] at *
    omega
  · rcases Nat.eq_zero_or_pos k with rfl | hk
    · have := Nat.div_le_self (a * 2 ^ 0) b
      simp only [Nat.pow_zero, Nat.mul_one] at *
      omega
    · refine ⟨?_, hk⟩
      obtain ⟨m, rfl⟩ : ∃ m, k = m + 1 := ⟨k - 1, by omega⟩
      rw [Nat.add_sub_cancel] at h
      rw [pow_up]
      rcases Decidable.em (2 * ((a * 2 ^ m) % b) ≥ b) with g | g
      · rw [(step_hi hb g).1]; omega
      · rw [(step_lo hb g).1]; omega
/-! ### the reference's digits -/
def dgF : Nat → Nat → List UInt8 → Nat × Nat
  | 0, x, _ => (0, x)
  | _ + 1, x, [] => (0, x)
  | m + 1, x, c :: t => if 48 ≤ c.toNat ∧ c.toNat ≤ 57 then ((dgF m (10 * x + (c.toNat - 48)) t).1 + 1, (dgF m (10 * x + (c.toNat - 48)) t).2) else (0, x)
section
variable {s : List UInt8} {m x k : Nat}
theorem dgF_zero (t : List UInt8) : dgF 0 x t = (0, x) := by cases t <;> rfl
theorem dgF_end (h : ¬ k < s.length) : dgF m x (s.drop k) = (0, x) := by
  rw [List.drop_eq_nil_of_le (by omega)]; cases m <;> rfl
theorem dgF_no (h : k < s.length) (h1 : ¬ (48 ≤ bl s k ∧ bl s k ≤ 57)) : dgF m x (s.drop k) = (0, x) := by
  obtain ⟨c, e, hc⟩ := drop_at h
  cases m with
  | zero => exact dgF_zero _
  | succ m => rw [e, dgF, if_neg (fun z => h1 ⟨by omega, by omega⟩)]
theorem dgF_yes (h : k < s.length) (h1 : 48 ≤ bl s k) (h2 : bl s k ≤ 57) : dgF (m + 1) x (s.drop k) = ((dgF m (10 * x + ((bl s k).toNat - 48)) (s.drop (k + 1))).1 + 1, (dgF m (10 * x + ((bl s k).toNat - 48)) (s.drop (k + 1))).2) := by
  obtain ⟨c, e, hc⟩ := drop_at h
  rw [e, dgF, if_pos ⟨by omega, by omega⟩, hc]; rfl
end
theorem dgF_bd : ∀ (m x : Nat) (s : List UInt8), (dgF m x s).1 ≤ m ∧ (dgF m x s).1 ≤ s.length ∧ (∀ e, x < 10 ^ e → (dgF m x s).2 < 10 ^ (e + (dgF m x s).1))
  | 0, x, s => by rw [dgF_zero]; exact ⟨Nat.le_refl _, Nat.zero_le _, fun e h => h⟩
  | m + 1, x, [] => ⟨Nat.zero_le _, Nat.le_refl _, fun e h => h⟩
  | m + 1, x, c :: t => by
    rw [dgF]
    split
    · rename_i hc
      obtain ⟨h1, h2, h3⟩ := dgF_bd m (10 * x + (c.toNat - 48)) t
      refine ⟨by simp only; omega, by simp only [List.length_cons]; omega, fun e h => ?_⟩
      have := h3 (e + 1) (dec_up h (by omega))
      simp only
      rw [show e + ((dgF m (10 * x + (c.toNat - 48)) t).1 + 1) = e + 1 + (dgF m (10 * x + (c.toNat - 48)) t).1 by omega]
      exact this
    · exact ⟨Nat.zero_le _, Nat.zero_le _, fun e h => h⟩
theorem dgF_acc : ∀ (m x : Nat) (s : List UInt8), (dgF m x s).1 = (dgF m 0 s).1 ∧ (dgF m x s).2 = x * 10 ^ (dgF m 0 s).1 + (dgF m 0 s).2
  | 0, x, s => by rw [dgF_zero, dgF_zero]; simp
  | m + 1, x, [] => by simp [dgF]
  | m + 1, x, c :: t => by
    rw [dgF, dgF]
    split
    · rename_i hc
      obtain ⟨h1, h2⟩ := dgF_acc m (10 * x + (c.toNat - 48)) t
      obtain ⟨h3, h4⟩ := dgF_acc m (10 * 0 + (c.toNat - 48)) t
      simp only [Nat.mul_zero, Nat.zero_add] at *
      refine ⟨by rw [h1, h3], ?_⟩
      rw [h2, h4, h3, Nat.pow_succ, Nat.add_mul, ← Nat.add_assoc]
      congr 2
      rw [Nat.mul_comm 10 x, Nat.mul_assoc, Nat.mul_comm 10]
    · simp
/-- the document's form -/
def refP (s : List UInt8) : Option (Nat × Nat) :=
  if (dgF 12 0 s).1 = 0 then none
  else if (s.drop (dgF 12 0 s).1).length = 0 then some ((dgF 12 0 s).2, 0)
  else if bl (s.drop (dgF 12 0 s).1) 0 ≠ 46 ∨ (dgF 3 0 ((s.drop (dgF 12 0 s).1).drop 1)).1 = 0 ∨ (dgF 3 0 ((s.drop (dgF 12 0 s).1).drop 1)).1 ≠ (s.drop (dgF 12 0 s).1).length - 1 then none
  else some ((dgF 12 0 s).2 * 10 ^ (dgF 3 0 ((s.drop (dgF 12 0 s).1).drop 1)).1 + (dgF 3 0 ((s.drop (dgF 12 0 s).1).drop 1)).2, (dgF 3 0 ((s.drop (dgF 12 0 s).1).drop 1)).1)
theorem scan_dot : ∀ (t : List UInt8) (n d : Nat), d ≤ 3 → scan true n d t = if (dgF (3 - d) n t).1 = t.length ∧ ¬ d + (dgF (3 - d) n t).1 = 0 then some ((dgF (3 - d) n t).2, d + (dgF (3 - d) n t).1) else none
  | [], n, d, h => by
    have e : dgF (3 - d) n [] = (0, n) := by cases (3 - d) <;> rfl
    rw [e, scan]
    by_cases h0 : d = 0
    · rw [if_pos h0, if_neg (by simp; omega)]
    · rw [if_neg h0, if_pos (by simp; omega)]; rfl
  | c :: t, n, d, h => by
    rw [scan, if_neg (by simp)]
    by_cases h3 : d < 3
    · obtain ⟨m, hm⟩ : ∃ m, 3 - d = m + 1 := ⟨2 - d, by omega⟩
      have hm2 : m = 3 - (d + 1) := by omega
      rw [hm, dgF]
      by_cases hc : 48 ≤ c.toNat ∧ c.toNat ≤ 57
      · rw [if_pos ⟨hc.1, hc.2, h3⟩, if_pos hc, scan_dot t _ (d + 1) (by omega), hm2]
        generalize dgF (3 - (d + 1)) (10 * n + (c.toNat - 48)) t = r
        simp only [List.length_cons]
        by_cases g : r.1 = t.length
        · rw [if_pos ⟨g, by omega⟩, if_pos ⟨by omega, by omega⟩]; congr 2; omega
        · rw [if_neg (fun z => g z.1), if_neg (fun z => g (by omega))]
      · rw [if_neg (fun z => hc ⟨z.1, z.2.1⟩), if_neg hc, if_neg (by simp)]
    · have e : 3 - d = 0 := by omega
      rw [if_neg (fun z => h3 (by exact z.2.2)), e, dgF_zero, if_neg (by simp)]
theorem scan_whole : ∀ (s : List UInt8) (n d : Nat), d ≤ 12 → scan false n d s =
    (if d + (dgF (12 - d) n s).1 = 0 then none else if (s.drop (dgF (12 - d) n s).1).length = 0 then some ((dgF (12 - d) n s).2, 0)
     else if bl (s.drop (dgF (12 - d) n s).1) 0 = 46 then scan true (dgF (12 - d) n s).2 0 ((s.drop (dgF (12 - d) n s).1).drop 1) else none)
  | [], n, d, h => by
    have e : dgF (12 - d) n [] = (0, n) := by cases (12 - d) <;> rfl
    rw [e, scan]; simp
  | c :: t, n, d, h => by
    rw [scan]
    have hb : ∀ l : List UInt8, bl (c :: l) 0 = ((c.toNat : Nat) : Int) := fun l => rfl
    by_cases hc : 48 ≤ c.toNat ∧ c.toNat ≤ 57
    · by_cases h3 : d < 12
      · obtain ⟨m, hm⟩ : ∃ m, 12 - d = m + 1 := ⟨11 - d, by omega⟩
        have hm2 : m = 12 - (d + 1) := by omega
        rw [if_neg (by omega), if_pos ⟨hc.1, hc.2, h3⟩, hm, dgF, if_pos hc, scan_whole t _ (d + 1) (by omega), hm2]
        generalize dgF (12 - (d + 1)) (10 * n + (c.toNat - 48)) t = r
        simp only [List.drop_succ_cons]
        rw [if_neg (show ¬ d + 1 + r.1 = 0 by omega), if_neg (show ¬ d + (r.1 + 1) = 0 by omega)]
      · have e : 12 - d = 0 := by omega
        rw [if_neg (show ¬ (c.toNat = 46 ∧ false = false ∧ 0 < d) from fun z => by omega), if_neg (show ¬ (48 ≤ c.toNat ∧ c.toNat ≤ 57 ∧ d < most false) from fun z => h3 z.2.2), e, dgF_zero]
        simp only [Nat.add_zero, List.drop_zero]
        rw [hb, if_neg (show ¬ d = 0 by omega), if_neg (show ¬ (c :: t).length = 0 by simp), if_neg (show ¬ ((c.toNat : Nat) : Int) = 46 by omega)]
    · have e : dgF (12 - d) n (c :: t) = (0, n) := by
        cases (12 - d) with
        | zero => rfl
        | succ m => rw [dgF, if_neg hc]
      rw [e]
      simp only [Nat.add_zero, List.drop_zero]
      rw [hb]
      by_cases h0 : d = 0
      · rw [if_pos h0, if_neg (show ¬ (c.toNat = 46 ∧ True ∧ 0 < d) from fun z => by omega), if_neg (show ¬ (48 ≤ c.toNat ∧ c.toNat ≤ 57 ∧ d < most false) from fun z => hc ⟨z.1, z.2.1⟩)]
      · rw [if_neg h0, if_neg (show ¬ (c :: t).length = 0 by simp)]
        by_cases hp : c.toNat = 46
        · rw [if_pos (show c.toNat = 46 ∧ True ∧ 0 < d from ⟨hp, trivial, by omega⟩), if_pos (show ((c.toNat : Nat) : Int) = 46 by omega)]; rfl
        · rw [if_neg (show ¬ (c.toNat = 46 ∧ True ∧ 0 < d) from fun z => by omega), if_neg (show ¬ (48 ≤ c.toNat ∧ c.toNat ≤ 57 ∧ d < most false) from fun z => hc ⟨z.1, z.2.1⟩), if_neg (show ¬ ((c.toNat : Nat) : Int) = 46 by omega)]
theorem refP_scan (s : List UInt8) : refP s = scan false 0 0 s := by
  rw [scan_whole s 0 0 (by decide)]
  unfold refP
  simp only [Nat.zero_add, Nat.sub_zero]
  split
  · rfl
  · split
    · rfl
    · rename_i h0 h1
      by_cases hb : bl (s.drop (dgF 12 0 s).1) 0 = 46
      · rw [if_pos hb, scan_dot _ _ 0 (by decide)]
        simp only [Nat.sub_zero, Nat.zero_add]
        obtain ⟨e1, e2⟩ := dgF_acc 3 (dgF 12 0 s).2 ((s.drop (dgF 12 0 s).1).drop 1)
        rw [e1, e2]
        have hl : ((s.drop (dgF 12 0 s).1).drop 1).length = (s.drop (dgF 12 0 s).1).length - 1 := List.length_drop ..
        rw [hl]
        generalize (dgF 3 0 ((s.drop (dgF 12 0 s).1).drop 1)).1 = m
        by_cases hm : m = (s.drop (dgF 12 0 s).1).length - 1 ∧ ¬ m = 0
        · rw [if_neg (by rintro (z | z | z); exact z hb; exact hm.2 z; exact z hm.1), if_pos hm]
        · rw [if_neg hm, if_pos]
          by_cases h2 : m = 0
          · exact .inr (.inl h2)
          · exact .inr (.inr fun z => hm ⟨z, h2⟩)
      · rw [if_neg hb, if_pos (.inl hb)]
end Go.RealQ
namespace Go.RealQ
open Go.Gw
theorem csign_eq {n : Nat} (hn : n < 9223372036854775808) : Int.toNat (IntKind.wrap .u64 ((BitVec.ofInt (IntKind.bits .u64) (IntKind.wrap .u64 ((BitVec.ofInt (IntKind.bits .u64) ((n : Nat) : Int) &&& ~~~BitVec.ofInt (IntKind.bits .u64) 9223372036854775808).toNat : Int)) ||| BitVec.ofInt (IntKind.bits .u64) (IntKind.wrap .u64 ((BitVec.ofInt (IntKind.bits .u64) 13830554455654793216 &&& BitVec.ofInt (IntKind.bits .u64) 9223372036854775808).toNat : Int))).toNat : Int)) = n + 9223372036854775808 := by
  have e2 : IntKind.wrap .u64 ((BitVec.ofInt (IntKind.bits .u64) 13830554455654793216 &&& BitVec.ofInt (IntKind.bits .u64) 9223372036854775808).toNat : Int) = 9223372036854775808 := by decide +kernel
  have e3 : ~~~BitVec.ofInt (IntKind.bits .u64) 9223372036854775808 = BitVec.ofNat 64 9223372036854775807 := by
    show ~~~BitVec.ofInt 64 9223372036854775808 = BitVec.ofNat 64 9223372036854775807
    decide +kernel
  have e1 : IntKind.wrap .u64 ((BitVec.ofInt (IntKind.bits .u64) ((n : Nat) : Int) &&& ~~~BitVec.ofInt (IntKind.bits .u64) 9223372036854775808).toNat : Int) = ((n : Nat) : Int) := by
    rw [e3]
    show IntKind.wrap .u64 ((BitVec.ofInt 64 ((n : Nat) : Int) &&& BitVec.ofNat 64 9223372036854775807).toNat : Int) = _
    rw [BitVec.toNat_and, BitVec.ofInt_natCast, BitVec.toNat_ofNat, BitVec.toNat_ofNat, Nat.mod_eq_of_lt (by omega), Nat.mod_eq_of_lt (by omega)]
    have := Nat.and_two_pow_sub_one_eq_mod n 63
    have p : (2 : Nat) ^ 63 = 9223372036854775808 := by decide
    rw [p] at this
    have q : (9223372036854775808 : Nat) - 1 = 9223372036854775807 := by decide
    rw [q] at this
    rw [this, Nat.mod_eq_of_lt hn]
    exact IntWalk.u64_in _ (by omega)
  rw [e1, e2]
  show Int.toNat (IntKind.wrap .u64 ((BitVec.ofInt 64 ((n : Nat) : Int) ||| BitVec.ofInt 64 ((9223372036854775808 : Nat) : Int)).toNat : Int)) = _
  rw [BitVec.toNat_or, BitVec.ofInt_natCast, BitVec.ofInt_natCast, BitVec.toNat_ofNat, BitVec.toNat_ofNat, Nat.mod_eq_of_lt (by omega), Nat.mod_eq_of_lt (by omega)]
  have := Nat.two_pow_add_eq_or_of_lt (i := 63) (b := n) (by rw [show (2 : Nat) ^ 63 = 9223372036854775808 by decide]; exact hn) 1
  rw [Nat.mul_one, show (2 : Nat) ^ 63 = 9223372036854775808 by decide] at this
  rw [Nat.or_comm, ← this, IntWalk.u64_in _ (by omega)]
  omega
theorem minus_yes {s : List UInt8} (h : ¬ s = []) (h2 : (bl s 0 == 45) = true) : minus s = true := by
  unfold minus; rw [h2, decide_eq_true (List.length_pos_iff.2 h)]; rfl
theorem minus_no {s : List UInt8} (h2 : (bl s 0 == 45) = false) : minus s = false := by unfold minus; rw [h2, Bool.and_false]
theorem minus_nil {s : List UInt8} (h : s = []) : minus s = false := by subst h; rfl
end Go.RealQ
namespace Go.RealQ
theorem rndQ_up {q r : Nat} (h : q % 2 = 1) (h2 : 0 < r ∨ q / 2 % 2 = 1) : rndQ q (decide (0 < r)) = q / 2 + 1 := by
  unfold rndQ; rw [if_pos ⟨h, by rcases h2 with z | z; exact .inl (decide_eq_true z); exact .inr z⟩]
theorem rndQ_same {q r : Nat} (h : ¬ (q % 2 = 1 ∧ (0 < r ∨ q / 2 % 2 = 1))) : rndQ q (decide (0 < r)) = q / 2 := by
  unfold rndQ; rw [if_neg (fun z => h ⟨z.1, by rcases z.2 with y | y; exact .inl (of_decide_eq_true y); exact .inr y⟩)]; rfl
end Go.RealQ
namespace Go.RealQ
theorem xm_bd {x j : Nat} (hx : x < 1000000000000) (hj : j ≤ 3) : x * 10 ^ j ≤ 999999999999000 := by
  have h1 := (sc_bd hj).2
  calc x * 10 ^ j ≤ 999999999999 * 1000 := Nat.mul_le_mul (by omega) h1
    _ = 999999999999000 := by decide
end Go.RealQ
namespace Go.RealQ
theorem dg12 (s : List UInt8) : (dgF 12 0 s).2 < 1000000000000 := by
  obtain ⟨h1, h2, h3⟩ := dgF_bd 12 0 s
  have := dec_bd (c := 12) (h3 0 (by decide)) (by omega)
  have e : (10 : Nat) ^ 12 = 1000000000000 := by decide
  rwa [e] at this
theorem dg3 (s : List UInt8) : (dgF 3 0 s).2 < 1000 := by
  obtain ⟨h1, h2, h3⟩ := dgF_bd 3 0 s
  have := dec_bd (c := 3) (h3 0 (by decide)) (by omega)
  have e : (10 : Nat) ^ 3 = 1000 := by decide
  rwa [e] at this
end Go.RealQ
