/-
  The checksum, as plain numbers: by steps of a register, and by a row of bits. No condition beyond those that each theorem names.
-/
import Derived.Test.YtmjkbmlcclmdkaaDoorNum
namespace Go.CrcP
open Go.Gw Go.NumP
set_option linter.unusedVariables false
set_option linter.unusedSimpArgs false

/-- the byte at a place -/
def bn (l : List UInt8) (i : Nat) : Nat := (l.getD i 0).toNat
theorem bl_bn (l : List UInt8) (i : Nat) : bl l i = ((bn l i : Nat) : Int) := rfl
theorem bn_lt (l : List UInt8) (i : Nat) : bn l i < 256 := (l.getD i 0).toNat_lt
def poly : Nat := 3988292384
/-- one step of the register -/
def stp (c : Nat) : Nat := (c / 2) ^^^ (c % 2 * 3988292384)
def stpN : Nat → Nat → Nat
  | 0, c => c
  | n + 1, c => stpN n (stp c)
theorem xor_lt32 {a b : Nat} (ha : a < 4294967296) (hb : b < 4294967296) : a ^^^ b < 4294967296 := Nat.xor_lt_two_pow (n := 32) ha hb
theorem stp_lt {c : Nat} (h : c < 4294967296) : stp c < 4294967296 := by
  unfold stp
  refine xor_lt32 (by omega) ?_
  have : c % 2 < 2 := Nat.mod_lt _ (by decide)
  generalize c % 2 = y at *
  omega
theorem stpN_lt : ∀ (n : Nat) {c : Nat}, c < 4294967296 → stpN n c < 4294967296
  | 0, _, h => h
  | n + 1, _, h => stpN_lt n (stp_lt h)
theorem bits_ext {a b : Nat} (h : ∀ k, a.testBit k = b.testBit k) : a = b := Nat.eq_of_testBit_eq h
theorem stp_xor (a b : Nat) : stp (a ^^^ b) = stp a ^^^ stp b := by
  have h1 : (a ^^^ b) / 2 = a / 2 ^^^ b / 2 := by
    apply bits_ext; intro k
    rw [Nat.testBit_xor, Nat.testBit_div_two, Nat.testBit_div_two, Nat.testBit_div_two, Nat.testBit_xor]
  have h2 : (a ^^^ b) % 2 = (a % 2 + b % 2) % 2 := by
    have e := Nat.testBit_xor a b 0
    simp only [Nat.testBit_zero] at e
    rcases Nat.mod_two_eq_zero_or_one a with ha | ha <;> rcases Nat.mod_two_eq_zero_or_one b with hb | hb <;> rcases Nat.mod_two_eq_zero_or_one (a ^^^ b) with hc | hc <;> simp_all
  unfold stp
  rw [h1, h2]
  rcases Nat.mod_two_eq_zero_or_one a with ha | ha <;> rcases Nat.mod_two_eq_zero_or_one b with hb | hb <;> rw [ha, hb]
  · simp
  · simp only [Nat.zero_mul, Nat.xor_zero, Nat.zero_add, Nat.one_mul, Nat.xor_assoc]
  · simp only [Nat.zero_mul, Nat.xor_zero, Nat.add_zero, Nat.one_mul, Nat.xor_assoc]
    show a / 2 ^^^ (b / 2 ^^^ 3988292384) = a / 2 ^^^ (3988292384 ^^^ b / 2)
    rw [Nat.xor_comm (b / 2)]
  · show a / 2 ^^^ b / 2 ^^^ 0 = a / 2 ^^^ 1 * 3988292384 ^^^ (b / 2 ^^^ 1 * 3988292384)
    apply bits_ext; intro k
    simp only [Nat.testBit_xor, Nat.zero_testBit]
    cases (a / 2).testBit k <;> cases (b / 2).testBit k <;> cases (1 * 3988292384).testBit k <;> rfl
theorem xor_eq_zero {a b : Nat} (h : a ^^^ b = 0) : a = b := by
  apply bits_ext; intro k
  have := congrArg (fun x => x.testBit k) h
  simp only [Nat.testBit_xor, Nat.zero_testBit] at this
  cases ha : a.testBit k <;> cases hb : b.testBit k <;> simp_all
theorem stp_zero {c : Nat} (hc : c < 4294967296) (h : stp c = 0) : c = 0 := by
  unfold stp at h
  have e := xor_eq_zero h
  rcases Nat.mod_two_eq_zero_or_one c with h2 | h2 <;> rw [h2] at e <;> omega
theorem stp_inj {a b : Nat} (ha : a < 4294967296) (hb : b < 4294967296) (h : stp a = stp b) : a = b := by
  apply xor_eq_zero
  apply stp_zero (xor_lt32 ha hb)
  rw [stp_xor, h, Nat.xor_self]
theorem stpN_inj : ∀ (n : Nat) {a b : Nat}, a < 4294967296 → b < 4294967296 → stpN n a = stpN n b → a = b
  | 0, _, _, _, _, h => h
  | n + 1, _, _, ha, hb, h => stp_inj ha hb (stpN_inj n (stp_lt ha) (stp_lt hb) h)

/-- the register behind bytes -/
def crcF (c : Nat) (s : List UInt8) : Nat := s.foldl (fun c b => stpN 8 (c ^^^ b.toNat)) c
theorem crcF_lt (s : List UInt8) : ∀ {c : Nat}, c < 4294967296 → crcF c s < 4294967296 := by
  induction s with
  | nil => intro c h; exact h
  | cons b s ih => intro c h; exact ih (stpN_lt 8 (xor_lt32 h (by have := b.toNat_lt; omega)))
theorem xor_inj {a b c : Nat} (h : a ^^^ c = b ^^^ c) : a = b := by
  have : (a ^^^ c) ^^^ c = (b ^^^ c) ^^^ c := by rw [h]
  rwa [Nat.xor_assoc, Nat.xor_assoc, Nat.xor_self, Nat.xor_zero, Nat.xor_zero] at this
theorem crcF_inj (s : List UInt8) : ∀ {a b : Nat}, a < 4294967296 → b < 4294967296 → crcF a s = crcF b s → a = b := by
  induction s with
  | nil => intro a b _ _ h; exact h
  | cons x s ih =>
    intro a b ha hb h
    have hx : x.toNat < 4294967296 := by have := x.toNat_lt; omega
    have := ih (stpN_lt 8 (xor_lt32 ha hx)) (stpN_lt 8 (xor_lt32 hb hx)) h
    exact xor_inj (stpN_inj 8 (xor_lt32 ha hx) (xor_lt32 hb hx) this)
theorem crcF_app (c : Nat) (s t : List UInt8) : crcF c (s ++ t) = crcF (crcF c s) t := by simp [crcF, List.foldl_append]
/-- one other byte, another register -/
theorem crcF_one {u v : List UInt8} {x y : UInt8} {c : Nat} (hc : c < 4294967296) (h : crcF c (u ++ x :: v) = crcF c (u ++ y :: v)) : x = y := by
  rw [crcF_app, crcF_app] at h
  have h0 := crcF_lt u hc
  have hx : x.toNat < 4294967296 := by have := x.toNat_lt; omega
  have hy : y.toNat < 4294967296 := by have := y.toNat_lt; omega
  have h1 := crcF_inj v (stpN_lt 8 (xor_lt32 h0 hx)) (stpN_lt 8 (xor_lt32 h0 hy)) h
  have h2 := stpN_inj 8 (xor_lt32 h0 hx) (xor_lt32 h0 hy) h1
  rw [Nat.xor_comm, Nat.xor_comm (crcF c u)] at h2
  exact UInt8.toNat_inj.1 (xor_inj h2)
def crc0 (s : List UInt8) : Nat := crcF 4294967295 s
theorem crc0_lt (s : List UInt8) : crc0 s < 4294967296 := crcF_lt s (by decide)
/-- the checksum -/
def crc (s : List UInt8) : Nat := 4294967295 - crc0 s
theorem crc_lt (s : List UInt8) : crc s < 4294967296 := by unfold crc; omega
theorem crc_one {u v : List UInt8} {x y : UInt8} (h : crc (u ++ x :: v) = crc (u ++ y :: v)) : x = y := by
  unfold crc at h
  have h1 := crc0_lt (u ++ x :: v)
  have h2 := crc0_lt (u ++ y :: v)
  exact crcF_one (c := 4294967295) (u := u) (v := v) (by decide) (show crc0 (u ++ x :: v) = crc0 (u ++ y :: v) by omega)

/-! ### what the operations give -/
theorem ofInt32 {a : Nat} (h : a < 4294967296) : (BitVec.ofInt 32 (a : Int)).toNat = a := by rw [ofInt_nat (by omega) (by omega)]; simp
theorem xor_u32 {a b : Nat} (ha : a < 4294967296) (hb : b < 4294967296) : IntKind.wrap .u32 ((BitVec.ofInt (IntKind.bits .u32) (a : Int) ^^^ BitVec.ofInt (IntKind.bits .u32) (b : Int)).toNat : Int) = ((a ^^^ b : Nat) : Int) := by
  show IntKind.wrap .u32 ((BitVec.ofInt 32 (a : Int) ^^^ BitVec.ofInt 32 (b : Int)).toNat : Int) = _
  rw [BitVec.toNat_xor, ofInt32 ha, ofInt32 hb]
  exact IntWalk.u32_in _ (by have := xor_lt32 ha hb; omega)
theorem and_poly {y : Nat} (hy : y < 2) : IntKind.wrap .u32 ((BitVec.ofInt (IntKind.bits .u32) 3988292384 &&& BitVec.ofInt (IntKind.bits .u32) (IntKind.wrap .u32 (0 - (y : Int)))).toNat : Int) = ((y * 3988292384 : Nat) : Int) := by
  match y, hy with
  | 0, _ => decide +kernel
  | 1, _ => decide +kernel
theorem not_u32 {c : Nat} (h : c < 4294967296) : IntKind.wrap .u32 ((BitVec.ofInt (IntKind.bits .u32) 4294967295 ^^^ BitVec.ofInt (IntKind.bits .u32) (c : Int)).toNat : Int) = ((4294967295 - c : Nat) : Int) := by
  have e : (4294967295 : Int) = ((4294967295 : Nat) : Int) := rfl
  rw [e, xor_u32 (by decide) h]
  congr 1
  apply bits_ext; intro k
  rw [Nat.testBit_xor]
  have h2 := Nat.testBit_two_pow_sub_succ (x := c) (n := 32) h k
  have h3 := Nat.testBit_two_pow_sub_one 32 k
  simp only [show 2 ^ 32 - (c + 1) = 4294967295 - c by omega, show 2 ^ 32 - 1 = 4294967295 by decide] at h2 h3
  rw [h2, h3]
  by_cases hk : k < 32
  · simp [hk]
  · have : c.testBit k = false := Nat.testBit_lt_two_pow (Nat.lt_of_lt_of_le h (by have := Nat.pow_le_pow_right (show 0 < 2 by decide) (show 32 ≤ k by omega); simpa using this))
    simp [hk, this]
theorem crc_step {s : List UInt8} {k : Nat} (h : k < s.length) : stp (stp (stp (stp (stp (stp (stp (stp (crc0 (s.take k) ^^^ bn s k)))))))) = crc0 (s.take (k + 1)) := by
  have e : s.take (k + 1) = s.take k ++ [s.getD k 0] := by
    rw [List.take_succ_eq_append_getElem h, List.getD_eq_getElem?_getD, List.getElem?_eq_getElem h]; rfl
  unfold crc0
  rw [e, crcF_app]; rfl

/-! ### by a row of bits -/
/-- bit j of a text -/
def mb (s : List UInt8) (j : Nat) : Bool := (bn s (j / 8)).testBit (j % 8)
theorem mb_out {s : List UInt8} {j : Nat} (h : 8 * s.length ≤ j) : mb s j = false := by
  unfold mb bn
  rw [List.getD_eq_getElem?_getD, List.getElem?_eq_none (by omega)]; simp
theorem mb_at (s : List UInt8) (i k : Nat) (hk : k < 8) : mb s (8 * i + k) = (bn s i / 2 ^ k % 2 == 1) := by
  unfold mb
  rw [show (8 * i + k) / 8 = i by omega, show (8 * i + k) % 8 = k by omega, Nat.testBit_eq_decide_div_mod_eq]
  exact Bool.eq_iff_iff.2 (by simp)
def fnRow (s : List UInt8) (f : Nat → Bool) : List Bool := (List.range (8 * s.length + 32)).map f
theorem fnRow_len (s : List UInt8) (f : Nat → Bool) : (fnRow s f).length = 8 * s.length + 32 := by simp [fnRow]
theorem fnRow_get {s : List UInt8} {f : Nat → Bool} {j : Nat} (h : j < 8 * s.length + 32) : (fnRow s f).getD j false = f j := by
  simp [fnRow, List.getD_eq_getElem?_getD, h]
theorem fnRow_ext {s : List UInt8} {f g : Nat → Bool} (h : ∀ j, j < 8 * s.length + 32 → f j = g j) : fnRow s f = fnRow s g := by
  unfold fnRow; exact List.map_congr_left (fun j hj => h j (by simpa using hj))
theorem fnRow_set {s : List UInt8} {f g : Nat → Bool} {i : Nat} {b : Bool} (hi : g i = b) (h : ∀ j, j ≠ i → g j = f j) : (fnRow s f).set i b = fnRow s g := by
  apply List.ext_getElem (by simp [fnRow])
  intro j h1 h2
  rw [List.getElem_set]
  simp only [fnRow, List.getElem_map, List.getElem_range]
  split
  · rename_i e; subst e; exact hi.symm
  · rename_i e; exact (h j (Ne.symm e)).symm
/-- m bits are laid -/
def rowA (s : List UInt8) (m : Nat) : List Bool := fnRow s fun j => decide (j < m) && mb s j
theorem rowA_zero (s : List UInt8) : List.replicate (8 * s.length + 32) false = rowA s 0 := by
  apply List.ext_getElem (by simp [rowA, fnRow])
  intro j h1 h2; simp [rowA, fnRow]
theorem rowA_step {s : List UInt8} {i k : Nat} {b : Bool} (hk : k < 8) (hb : (((bn s i / 2 ^ k % 2 : Nat) : Int) == 1) = b) : (rowA s (8 * i + k)).set (8 * i + k) b = rowA s (8 * i + (k + 1)) := by
  refine fnRow_set ?_ (fun j hj => ?_)
  · rw [decide_eq_true (by omega), Bool.true_and, mb_at s i k hk, ← hb]
    rw [Bool.eq_iff_iff, beq_iff_eq, beq_iff_eq]
    generalize bn s i / 2 ^ k % 2 = x
    omega
  · have : decide (j < 8 * i + (k + 1)) = decide (j < 8 * i + k) := by
      apply decide_eq_decide.2; omega
    rw [this]
/-- the first m are turned -/
def rowB (s : List UInt8) (m : Nat) : List Bool := fnRow s fun j => decide (j < m) ^^ mb s j
theorem rowA_all (s : List UInt8) : rowA s (8 * s.length) = rowB s 0 := by
  refine fnRow_ext (fun j hj => ?_)
  by_cases h : j < 8 * s.length
  · simp [h]
  · simp [h, mb_out (show 8 * s.length ≤ j by omega)]
theorem rowB_step {s : List UInt8} {m : Nat} (h : m < 32) : (rowB s m).set m (!((rowB s m).getD m false)) = rowB s (m + 1) := by
  have hg : (rowB s m).getD m false = mb s m := by unfold rowB; rw [fnRow_get (by omega)]; simp
  rw [hg]
  refine fnRow_set (by simp) (fun j hj => ?_)
  have : decide (j < m + 1) = decide (j < m) := decide_eq_decide.2 (by omega)
  rw [this]
/-- the register, bit by bit -/
def reg (s : List UInt8) : Nat → Nat
  | 0 => 4294967295
  | i + 1 => stp (reg s i ^^^ (mb s i).toNat)
theorem reg_lt (s : List UInt8) : ∀ i, reg s i < 4294967296
  | 0 => show 4294967295 < 4294967296 by decide
  | i + 1 => stp_lt (xor_lt32 (reg_lt s i) (by cases mb s i <;> decide))
def qb (s : List UInt8) (i : Nat) : Bool := (reg s i).testBit 0 ^^ mb s i
def onesL : List Int := [6, 9, 10, 16, 20, 21, 22, 24, 25, 27, 28, 30, 31, 32]
def inOnes (k d : Nat) : Bool := (onesL.take k).contains (d : Int)
theorem ones_bd (k : Nat) : 0 ≤ onesL.getD k 0 ∧ onesL.getD k 0 ≤ 32 := by
  by_cases h : k < 14
  · have : ∀ k : Fin 14, 0 ≤ onesL.getD k.val 0 ∧ onesL.getD k.val 0 ≤ 32 := by decide +kernel
    exact this ⟨k, h⟩
  · rw [List.getD_eq_getElem?_getD, List.getElem?_eq_none (by simp [onesL]; omega)]; decide
theorem ones_pos {k : Nat} (h : k < 14) : 6 ≤ onesL.getD k 0 := by
  have : ∀ k : Fin 14, 6 ≤ onesL.getD k.val 0 := by decide +kernel
  exact this ⟨k, h⟩
/-- the division at place i, k of the polynomial's bits are taken away -/
def fC (s : List UInt8) (i k j : Nat) : Bool := if j < i then qb s j else ((reg s i).testBit (j - i) ^^ mb s j) ^^ (qb s i && inOnes k (j - i))
def rowC (s : List UInt8) (i k : Nat) : List Bool := fnRow s (fC s i k)
theorem rowC_len (s : List UInt8) (i k : Nat) : (rowC s i k).length = 8 * s.length + 32 := fnRow_len s _
theorem inOnes_zero (d : Nat) : inOnes 0 d = false := rfl
theorem inOnes_none (k : Nat) : inOnes k 0 = false := by
  unfold inOnes
  rw [Bool.eq_false_iff]
  intro h
  have h1 := List.mem_of_mem_take (List.contains_iff_mem.1 h)
  revert h1; decide +kernel
theorem ones_nodup (k : Nat) (hk : k < 14) : inOnes k (onesL.getD k 0).toNat = false := by
  have : ∀ k : Fin 14, inOnes k.val (onesL.getD k.val 0).toNat = false := by decide +kernel
  exact this ⟨k, hk⟩
theorem inOnes_succ (k d : Nat) (hk : k < 14) : inOnes (k + 1) d = (inOnes k d || decide (d = (onesL.getD k 0).toNat)) := by
  unfold inOnes
  have h14 : k < onesL.length := by simpa [onesL] using hk
  have e : onesL.take (k + 1) = onesL.take k ++ [onesL.getD k 0] := by
    rw [List.take_succ_eq_append_getElem h14, List.getD_eq_getElem?_getD, List.getElem?_eq_getElem h14]; rfl
  have hb := ones_bd k
  rw [e]
  rw [Bool.eq_iff_iff]
  simp only [List.contains_iff_mem, List.mem_append, List.mem_singleton, Bool.or_eq_true, decide_eq_true_eq]
  constructor
  · rintro (h | h)
    · exact .inl h
    · right; omega
  · rintro (h | h)
    · exact .inl h
    · right; omega
theorem rowC_head {s : List UInt8} {i k : Nat} (h : i < 8 * s.length) : (rowC s i k).getD i false = qb s i := by
  unfold rowC
  rw [fnRow_get (by omega), fC, if_neg (by omega), Nat.sub_self, inOnes_none]
  simp [qb]
theorem rowC_step {s : List UInt8} {i k : Nat} (hi : i < 8 * s.length) (hk : k < 14) (hq : qb s i = true) {j : Nat} (hj : (j : Int) = (i : Int) + onesL.getD k 0) : (rowC s i k).set j (!((rowC s i k).getD j false)) = rowC s i (k + 1) := by
  have hb := ones_bd k
  have hj2 : j = i + (onesL.getD k 0).toNat := by omega
  have hlt : j < 8 * s.length + 32 := by omega
  have hno := ones_nodup k hk
  refine fnRow_set ?_ (fun q hne => ?_)
  · show fC s i (k + 1) j = !((fnRow s (fC s i k)).getD j false)
    rw [fnRow_get hlt]
    unfold fC
    rw [if_neg (by omega), if_neg (by omega), show j - i = (onesL.getD k 0).toNat by omega, inOnes_succ k _ hk, hno, hq]
    simp
  · show fC s i (k + 1) q = fC s i k q
    unfold fC
    split
    · rfl
    · rw [inOnes_succ k _ hk, decide_eq_false (by omega), Bool.or_false]
theorem poly_bit : ∀ k : Fin 32, (3988292384 : Nat).testBit k.val = inOnes 14 (k.val + 1) := by decide +kernel
theorem poly_bits (k : Nat) : (3988292384 : Nat).testBit k = inOnes 14 (k + 1) := by
  by_cases h : k < 32
  · exact poly_bit ⟨k, h⟩
  · rw [Nat.testBit_lt_two_pow (Nat.lt_of_lt_of_le (show 3988292384 < 2 ^ 32 by decide) (Nat.pow_le_pow_right (by decide) (by omega)))]
    symm
    rw [Bool.eq_false_iff]
    intro h2
    have h3 : ((k + 1 : Nat) : Int) ∈ onesL := List.mem_of_mem_take (List.contains_iff_mem.1 h2)
    have : ∀ x ∈ onesL, x ≤ 32 := by decide +kernel
    have := this _ h3
    omega
theorem stp_bit (x k : Nat) : (stp x).testBit k = (x.testBit (k + 1) ^^ (x.testBit 0 && (3988292384 : Nat).testBit k)) := by
  unfold stp
  rw [Nat.testBit_xor, Nat.testBit_div_two, Nat.testBit_zero]
  rcases Nat.mod_two_eq_zero_or_one x with h | h <;> rw [h] <;> simp
theorem bit_toNat (b : Bool) (k : Nat) : b.toNat.testBit k = (b && decide (k = 0)) := by
  cases b
  · simp
  · cases k with
    | zero => decide
    | succ k => simp [Nat.testBit_succ]
theorem reg_bit (s : List UInt8) (i k : Nat) : (reg s (i + 1)).testBit k = ((reg s i).testBit (k + 1) ^^ (qb s i && inOnes 14 (k + 1))) := by
  rw [reg, stp_bit, Nat.testBit_xor, Nat.testBit_xor, bit_toNat, bit_toNat, poly_bits]
  simp [qb]
theorem rowC_next (s : List UInt8) (i : Nat) : rowC s i 14 = rowC s (i + 1) 0 := by
  refine fnRow_ext (fun j _ => ?_)
  unfold fC
  by_cases h1 : j < i
  · rw [if_pos h1, if_pos (by omega)]
  · rw [if_neg h1]
    by_cases h2 : j = i
    · subst h2
      rw [if_pos (by omega), Nat.sub_self, inOnes_none]; simp [qb]
    · rw [if_neg (by omega), inOnes_zero, reg_bit, show j - (i + 1) + 1 = j - i by omega]
      simp only [Bool.and_false, Bool.xor_false]
      cases qb s i && inOnes 14 (j - i) <;> cases mb s j <;> cases (reg s i).testBit (j - i) <;> rfl
theorem rowC_same {s : List UInt8} {i : Nat} (h : qb s i = false) : rowC s i 0 = rowC s (i + 1) 0 := by
  rw [← rowC_next]
  refine fnRow_ext (fun j _ => ?_)
  unfold fC; rw [h]; simp
theorem rowB_rowC (s : List UInt8) : rowB s 32 = rowC s 0 0 := by
  refine fnRow_ext (fun j _ => ?_)
  unfold fC
  rw [if_neg (by omega), inOnes_zero]
  have := Nat.testBit_two_pow_sub_one 32 j
  simp only [show 2 ^ 32 - 1 = 4294967295 by decide] at this
  show (decide (j < 32) ^^ mb s j) = (((4294967295 : Nat).testBit (j - 0) ^^ mb s j) ^^ (qb s 0 && false))
  rw [Nat.sub_zero, this]; simp
theorem reg_crc (s : List UInt8) : ∀ i, i ≤ s.length → reg s (8 * i) = crc0 (s.take i)
  | 0, _ => rfl
  | i + 1, h => by
    have ih := reg_crc s i (by omega)
    have one : ∀ k, k < 8 → ∀ m, stpN (m + 1) (reg s (8 * i + k) ^^^ (bn s i / 2 ^ k)) = stpN m (reg s (8 * i + (k + 1)) ^^^ (bn s i / 2 ^ (k + 1))) := by
      intro k hk m
      have hb : bn s i / 2 ^ k = (mb s (8 * i + k)).toNat ^^^ (2 * (bn s i / 2 ^ (k + 1))) := by
        rw [mb_at s i k hk, Nat.pow_succ, ← Nat.div_div_eq_div_mul]
        generalize bn s i / 2 ^ k = x
        apply bits_ext; intro q
        rw [Nat.testBit_xor, bit_toNat]
        cases q with
        | zero =>
          have hev : (2 * (x / 2)).testBit 0 = false := by simp
          rw [hev]; simp [Nat.testBit_zero]
          exact Bool.eq_iff_iff.2 (by simp)
        | succ q => simp [Nat.testBit_succ]
      have h2 : ∀ y, stp (2 * y) = y := by intro y; unfold stp; simp
      rw [stpN, hb, ← Nat.xor_assoc, stp_xor, h2]; rfl
    have e : stpN 8 (reg s (8 * i) ^^^ bn s i) = reg s (8 * i + 8) := by
      have h0 := one 0 (by decide) 7
      rw [Nat.pow_zero, Nat.div_one] at h0
      refine h0.trans ?_
      rw [one 1 (by decide) 6, one 2 (by decide) 5, one 3 (by decide) 4, one 4 (by decide) 3, one 5 (by decide) 2, one 6 (by decide) 1, one 7 (by decide) 0]
      have : bn s i / 2 ^ (7 + 1) = 0 := Nat.div_eq_of_lt (bn_lt s i)
      rw [this, Nat.xor_zero]; rfl
    have e2 : s.take (i + 1) = s.take i ++ [s.getD i 0] := by
      rw [List.take_succ_eq_append_getElem (by omega), List.getD_eq_getElem?_getD, List.getElem?_eq_getElem (by omega)]; rfl
    rw [show 8 * (i + 1) = 8 * i + 8 by omega, ← e, ih]
    unfold crc0
    rw [e2, crcF_app]; rfl
theorem reg_all (s : List UInt8) : reg s (8 * s.length) = crc0 s := by rw [reg_crc s s.length (Nat.le_refl _), List.take_length]
/-- what is left, bit by bit from the highest -/
theorem left_bit {s : List UInt8} {k : Nat} (h : k < 32) : (!((rowC s (8 * s.length) 0).getD (8 * s.length + k) false)) = (crc s / 2 ^ k % 2 == 1) := by
  unfold rowC
  rw [fnRow_get (by omega), fC, if_neg (by omega), show 8 * s.length + k - 8 * s.length = k by omega, inOnes_zero, mb_out (by omega), reg_all]
  have h2 := Nat.testBit_two_pow_sub_succ (x := crc0 s) (n := 32) (crc0_lt s) k
  simp only [show 2 ^ 32 - (crc0 s + 1) = crc s by unfold crc; omega] at h2
  rw [Nat.testBit_eq_decide_div_mod_eq] at h2
  simp only [h, decide_true, Bool.true_and] at h2
  simp only [Bool.and_false, Bool.xor_false]
  rw [← h2]
  exact Bool.eq_iff_iff.2 (by simp)
theorem half_step (y k : Nat) : y / 2 ^ k = 2 * (y / 2 ^ (k + 1)) + y / 2 ^ k % 2 := by
  rw [Nat.pow_succ, ← Nat.div_div_eq_div_mul]; omega
theorem rowA_len (s : List UInt8) (m : Nat) : (rowA s m).length = 8 * s.length + 32 := fnRow_len s _
theorem rowB_len (s : List UInt8) (m : Nat) : (rowB s m).length = 8 * s.length + 32 := fnRow_len s _
theorem half_back (y k : Nat) : 1 ≤ k → y / 2 ^ (k - 1) = 2 * (y / 2 ^ k) + y / 2 ^ (k - 1) % 2 := by
  intro h
  obtain ⟨j, rfl⟩ : ∃ j, k = j + 1 := ⟨k - 1, by omega⟩
  exact half_step y j
theorem bn32 (s : List UInt8) (k : Nat) : bn s k < 4294967296 := by have := bn_lt s k; omega
theorem poly32 (x : Nat) : x % 2 * 3988292384 < 4294967296 := by omega
theorem and1_u32 {a : Nat} (h : a < 4294967296) : IntKind.wrap .u32 ((BitVec.ofInt (IntKind.bits .u32) (a : Int) &&& BitVec.ofInt (IntKind.bits .u32) 1).toNat : Int) = ((a % 2 : Nat) : Int) := by
  show IntKind.wrap .u32 ((BitVec.ofInt 32 (a : Int) &&& BitVec.ofInt 32 1).toNat : Int) = _
  rw [BitVec.toNat_and, ofInt32 h, show (BitVec.ofInt 32 1).toNat = 1 from rfl, Nat.and_one_is_mod]
  exact IntWalk.u32_in _ (by omega)
/-- the number from bit k on -/
def sh (x k : Nat) : Nat := x / 2 ^ k
theorem sh_zero (x : Nat) : sh x 0 = x := by simp [sh]
theorem sh_succ (x k : Nat) : sh x k / 2 = sh x (k + 1) := by unfold sh; rw [Nat.div_div_eq_div_mul, ← Nat.pow_succ]
theorem sh_le (x k : Nat) : sh x k ≤ x := Nat.div_le_self _ _
theorem sh_back (y k : Nat) : 1 ≤ k → sh y (k - 1) = 2 * (sh y k) + sh y (k - 1) % 2 := half_back y k
theorem rowA_stepS {s : List UInt8} {i k : Nat} (hk : k < 8) : (rowA s (8 * i + k)).set (8 * i + k) (((sh (bn s i) k % 2 : Nat) : Int) == 1) = rowA s (8 * i + (k + 1)) := rowA_step hk rfl
theorem left_bitS {s : List UInt8} {k : Nat} (h : k < 32) : (!((rowC s (8 * s.length) 0).getD (8 * s.length + k) false)) = (sh (crc s) k % 2 == 1) := left_bit h
theorem sh_top (s : List UInt8) : sh (crc s) 32 = 0 := Nat.div_eq_of_lt (crc_lt s)
end Go.CrcP
