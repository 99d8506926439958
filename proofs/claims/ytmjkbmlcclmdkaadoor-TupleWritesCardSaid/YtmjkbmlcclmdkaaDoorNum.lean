/-
  Numbers as bytes (layer 1), as plain numbers and lists. No condition beyond those that each theorem names.
-/
import Derived.Test.YtmjkbmlcclmdkaaDoorBits
import Derived.Test.YtmjkbmlcclmdkaaDoorMem
import Derived.Laws.MathBits
namespace Go.NumP
open Go.Gw
set_option linter.unusedVariables false
set_option linter.unusedSimpArgs false

/-! ### digits by 256 -/
def digs : Nat → Nat → List Int
  | 0, _ => []
  | k + 1, x => digs k (x / 256) ++ [((x % 256 : Nat) : Int)]
def sz (x : Nat) : Nat :=
  if x < 256 then 1 else if x < 65536 then 2 else if x < 16777216 then 3 else if x < 4294967296 then 4
  else if x < 1099511627776 then 5 else if x < 281474976710656 then 6 else if x < 72057594037927936 then 7 else 8
theorem sz_bd (x : Nat) : 1 ≤ sz x ∧ sz x ≤ 8 := by
  unfold sz; repeat' split
  all_goals omega
theorem sz_of {x k : Nat} (h1 : 1 ≤ k) (h8 : k ≤ 8) (hl : 256 ^ (k - 1) ≤ x) (hu : x < 256 ^ k) : sz x = k := by
  unfold sz
  match k, h1, h8 with
  | 1, _, _ => rw [if_pos (by simpa using hu)]
  | 2, _, _ => simp at hl hu; repeat' split
               all_goals omega
  | 3, _, _ => simp at hl hu; repeat' split
               all_goals omega
  | 4, _, _ => simp at hl hu; repeat' split
               all_goals omega
  | 5, _, _ => simp at hl hu; repeat' split
               all_goals omega
  | 6, _, _ => simp at hl hu; repeat' split
               all_goals omega
  | 7, _, _ => simp at hl hu; repeat' split
               all_goals omega
  | 8, _, _ => simp at hl hu; repeat' split
               all_goals omega
  | n + 9, _, h => omega
theorem sz_le {x k : Nat} (h1 : 1 ≤ k) (h8 : k ≤ 8) (hu : x < 256 ^ k) : sz x ≤ k := by
  unfold sz
  match k, h1, h8 with
  | 1, _, _ => simp at hu; rw [if_pos hu]; omega
  | 2, _, _ => simp at hu; repeat' split
               all_goals omega
  | 3, _, _ => simp at hu; repeat' split
               all_goals omega
  | 4, _, _ => simp at hu; repeat' split
               all_goals omega
  | 5, _, _ => simp at hu; repeat' split
               all_goals omega
  | 6, _, _ => simp at hu; repeat' split
               all_goals omega
  | 7, _, _ => simp at hu; repeat' split
               all_goals omega
  | 8, _, _ => repeat' split
               all_goals omega
  | n + 9, _, h => omega
theorem digs_len : ∀ k x, (digs k x).length = k
  | 0, _ => rfl
  | k + 1, x => by simp [digs, digs_len k]
theorem digs_bd : ∀ k x, ∀ d ∈ digs k x, 0 ≤ d ∧ d ≤ 255
  | 0, _ => by simp [digs]
  | k + 1, x => by
    intro d hd
    simp only [digs, List.mem_append, List.mem_singleton] at hd
    rcases hd with hd | hd
    · exact digs_bd k _ d hd
    · omega
theorem pow256 (n : Nat) : 256 ^ n = 2 ^ (8 * n) := by rw [Nat.pow_mul]
/-- the digit of a shift -/
theorem shr_digit {x n : Nat} {y : Int} (hy : y = 8 * (n : Int)) (hn : n ≤ 8) : ((x : Nat) : Int).fdiv (2 ^ (min y.toNat 64)) = ((x / 256 ^ n : Nat) : Int) := by
  have e : min y.toNat 64 = 8 * n := by omega
  rw [e, pow256, Int.fdiv_eq_ediv_of_nonneg _ (Int.pow_nonneg (by decide))]
  rw [Int.natCast_ediv]
  congr 1
/-- a shift by bytes -/
def dg (x n : Nat) : Nat := x / 256 ^ n
theorem shr_dg {x n : Nat} {y : Int} (hy : y = 8 * (n : Int)) (hn : n ≤ 8) : ((x : Nat) : Int).fdiv (2 ^ (min y.toNat 64)) = ((dg x n : Nat) : Int) := shr_digit hy hn
theorem div_step (x j k : Nat) (h : j < k) : x / 256 ^ (k - 1 - j) / 256 = x / 256 ^ (k - j) := by
  rw [Nat.div_div_eq_div_mul, ← Nat.pow_succ]
  congr 2
  omega

/-- a byte turned or not -/
def flipI (f x : Int) : Int := if f = 0 then x else 255 - x
theorem flip_bd {f x : Int} (h : 0 ≤ x ∧ x ≤ 255) : 0 ≤ flipI f x ∧ flipI f x ≤ 255 := by unfold flipI; split <;> omega
theorem xor_nat (a b : Nat) (ha : a < 256) (hb : b < 256) : ((BitVec.ofInt 8 (a : Int) ^^^ BitVec.ofInt 8 (b : Int)).toNat) = a ^^^ b := by
  have e1 : (BitVec.ofInt 8 (a : Int)).toNat = a := by rw [ofInt_nat (by omega) (by omega)]; simp
  have e2 : (BitVec.ofInt 8 (b : Int)).toNat = b := by rw [ofInt_nat (by omega) (by omega)]; simp
  rw [BitVec.toNat_xor, e1, e2]
theorem xor_255 : ∀ a : Fin 256, a.val ^^^ 255 = 255 - a.val := by decide +kernel
theorem xor_flip {f x : Int} (hf : f = 0 ∨ f = 255) (hx : 0 ≤ x ∧ x ≤ 255) : IntKind.wrap .u8 ((BitVec.ofInt (IntKind.bits .u8) x ^^^ BitVec.ofInt (IntKind.bits .u8) f).toNat : Int) = flipI f x := by
  obtain ⟨a, ha⟩ : ∃ a : Nat, x = (a : Int) := ⟨x.toNat, by omega⟩
  subst ha
  show IntKind.wrap .u8 ((BitVec.ofInt 8 (a : Int) ^^^ BitVec.ofInt 8 f).toNat : Int) = _
  rcases hf with rfl | rfl
  · rw [show (0 : Int) = ((0 : Nat) : Int) from rfl, xor_nat a 0 (by omega) (by omega)]
    simp only [Nat.xor_zero, flipI]
    exact IntWalk.u8_in _ (by omega)
  · rw [show (255 : Int) = ((255 : Nat) : Int) from rfl, xor_nat a 255 (by omega) (by omega)]
    have := xor_255 ⟨a, by omega⟩
    simp only at this
    rw [this, flipI, if_neg (by decide)]
    rw [show (((255 - a : Nat) : Nat) : Int) = 255 - (a : Int) by omega]
    exact IntWalk.u8_in _ (by omega)

/-- the bytes of a number -/
def numB (n : Int) : List Int :=
  if 111 < n then (239 + (sz (n - 112).toNat : Int)) :: digs (sz (n - 112).toNat) (n - 112).toNat
  else if n < -112 then (16 - (sz (-113 - n).toNat : Int)) :: (digs (sz (-113 - n).toNat) (-113 - n).toNat).map (flipI 255)
  else [128 + n]
theorem numB_len (n : Int) : 1 ≤ (numB n).length ∧ (numB n).length ≤ 9 := by
  have h1 := sz_bd (n - 112).toNat
  have h2 := sz_bd (-113 - n).toNat
  unfold numB
  repeat' split
  all_goals simp [digs_len]
  all_goals omega
theorem map_flip_bd {f : Int} {l : List Int} (h : ∀ d ∈ l, 0 ≤ d ∧ d ≤ 255) : ∀ d ∈ l.map (flipI f), 0 ≤ d ∧ d ≤ 255 := by
  intro d hd
  obtain ⟨c, hc, rfl⟩ := List.mem_map.1 hd
  exact flip_bd (h c hc)
theorem map_flip0 (l : List Int) : l.map (flipI 0) = l := by
  have : flipI 0 = id := by funext x; simp [flipI]
  rw [this, List.map_id]
theorem numB_bd (n : Int) : ∀ d ∈ numB n, 0 ≤ d ∧ d ≤ 255 := by
  have h1 := sz_bd (n - 112).toNat
  have h2 := sz_bd (-113 - n).toNat
  unfold numB
  intro d hd
  split at hd
  · rcases List.mem_cons.1 hd with h | h
    · omega
    · exact digs_bd _ _ d h
  · split at hd
    · rcases List.mem_cons.1 hd with h | h
      · omega
      · exact map_flip_bd (digs_bd _ _) d h
    · simp at hd; omega
def numsB (l : List Int) : List Int := l.flatMap numB
theorem one_bd {n : Int} (h : -9223372036854775808 ≤ n ∧ n ≤ 9223372036854775807) : ∀ j, -9223372036854775808 ≤ [n].getD j 0 ∧ [n].getD j 0 ≤ 9223372036854775807 := by
  intro j
  cases j with
  | zero => exact h
  | succ j => simp
theorem numsB_snoc (l : List Int) (n : Int) : numsB (l ++ [n]) = numsB l ++ numB n := by simp [numsB]
theorem numsB_len (l : List Int) : (numsB l).length ≤ 9 * l.length := by
  induction l with
  | nil => simp [numsB]
  | cons c l ih =>
    have := numB_len c
    have e : numsB (c :: l) = numB c ++ numsB l := by simp [numsB]
    rw [e, List.length_append, List.length_cons]; omega
theorem numsB_bd (l : List Int) : ∀ d ∈ numsB l, 0 ≤ d ∧ d ≤ 255 := by
  intro d hd
  obtain ⟨c, _, h⟩ := List.mem_flatMap.1 hd
  exact numB_bd c d h

/-! ### read -/
def rdx (f : Int) (s : List UInt8) : Nat → Nat
  | 0 => 0
  | i + 1 => 256 * rdx f s i + (flipI f (bl s (i + 1))).toNat
theorem rdx_lt (f : Int) (s : List UInt8) : ∀ i, rdx f s i < 256 ^ i
  | 0 => by simp [rdx]
  | i + 1 => by
    have h := rdx_lt f s i
    have hb := flip_bd (f := f) (bl_bd s (i + 1))
    rw [rdx, Nat.pow_succ]; omega
theorem rdx_lt8 (f : Int) (s : List UInt8) (i : Nat) (h : i ≤ 8) : rdx f s i < 18446744073709551616 :=
  Nat.lt_of_lt_of_le (rdx_lt f s i) (by have := Nat.pow_le_pow_right (show 0 < 256 by decide) h; simpa using this)
theorem rdx_lt7 (f : Int) (s : List UInt8) (i : Nat) (h : i ≤ 7) : rdx f s i < 72057594037927936 :=
  Nat.lt_of_lt_of_le (rdx_lt f s i) (by have := Nat.pow_le_pow_right (show 0 < 256 by decide) h; simpa using this)
def headK (b : Int) : Nat := (if b < 16 then 16 - b else b - 239).toNat
def headF (b : Int) : Int := if b < 16 then 255 else 0
/-- the number that begins some bytes, how many bytes it has, the error -/
def numP (s : List UInt8) : Int × Int × Int :=
  if s = [] then (0, 0, 2)
  else if 16 ≤ bl s 0 ∧ bl s 0 < 240 then (bl s 0 - 128, 1, 0)
  else if bl s 0 < 8 ∨ 247 < bl s 0 then (0, 0, 3)
  else if s.length ≤ headK (bl s 0) then (0, 0, 2)
  else if 1 < headK (bl s 0) ∧ flipI (headF (bl s 0)) (bl s 1) = 0 then (0, 0, 3)
  else if 9223372036854775695 < rdx (headF (bl s 0)) s (headK (bl s 0)) then (0, 0, 3)
  else (if bl s 0 < 16 then -113 - (rdx (headF (bl s 0)) s (headK (bl s 0)) : Int) else (rdx (headF (bl s 0)) s (headK (bl s 0)) : Int) + 112, (headK (bl s 0) : Int) + 1, 0)
/-- a number from 0 on -/
def cntP (s : List UInt8) : Int × Int × Int := if (numP s).2.2 = 0 ∧ (numP s).1 < 0 then (0, 0, 3) else numP s
theorem headK_bd {b : Int} (h : ¬ (16 ≤ b ∧ b < 240)) (h2 : ¬ (b < 8 ∨ 247 < b)) : 1 ≤ headK b ∧ headK b ≤ 8 := by
  unfold headK; split <;> omega

theorem rdx_step {f : Int} {s : List UInt8} {i : Nat} (h : 1 ≤ i) : rdx f s (i - 1) * 256 + (flipI f (bl s i)).toNat = rdx f s (i + 1 - 1) := by
  obtain ⟨j, rfl⟩ : ∃ j, i = j + 1 := ⟨i - 1, by omega⟩
  simp only [Nat.add_sub_cancel, rdx]; omega
theorem numP_tail {s : List UInt8} {k : Nat} {f : Int} (hne : s ≠ []) (h1 : ¬ (16 ≤ bl s 0 ∧ bl s 0 < 240)) (h2 : ¬ (bl s 0 < 8 ∨ 247 < bl s 0)) (hk : k = headK (bl s 0)) (hf : f = headF (bl s 0)) (hl : k < s.length) :
    numP s = if 1 < k ∧ flipI f (bl s 1) = 0 then (0, 0, 3) else if 9223372036854775695 < rdx f s k then (0, 0, 3)
      else (if bl s 0 < 16 then -113 - (rdx f s k : Int) else (rdx f s k : Int) + 112, (k : Int) + 1, 0) := by
  subst hk hf
  unfold numP
  rw [if_neg hne, if_neg h1, if_neg h2, if_neg (by omega)]
theorem ret_num {a b c : Int} {s : List UInt8} (h : numP s = (a, b, c)) : Ending.returned (.tuple #[.int .i64 a, .int .i64 b, .int .i64 c]) = .returned (.tuple #[.int .i64 (numP s).1, .int .i64 (numP s).2.1, .int .i64 (numP s).2.2]) := by rw [h]

/-! ### how long a number is in bits -/
def len8 : List UInt8 := [0, 1, 2, 2, 3, 3, 3, 3, 4, 4, 4, 4, 4, 4, 4, 4, 5, 5, 5, 5, 5, 5, 5, 5, 5, 5, 5, 5, 5, 5, 5, 5, 6, 6, 6, 6, 6, 6, 6, 6, 6, 6, 6, 6, 6, 6, 6, 6, 6, 6, 6, 6, 6, 6, 6, 6, 6, 6, 6, 6, 6, 6, 6, 6, 7, 7, 7, 7, 7, 7, 7, 7, 7, 7, 7, 7, 7, 7, 7, 7, 7, 7, 7, 7, 7, 7, 7, 7, 7, 7, 7, 7, 7, 7, 7, 7, 7, 7, 7, 7, 7, 7, 7, 7, 7, 7, 7, 7, 7, 7, 7, 7, 7, 7, 7, 7, 7, 7, 7, 7, 7, 7, 7, 7, 7, 7, 7, 7, 8, 8, 8, 8, 8, 8, 8, 8, 8, 8, 8, 8, 8, 8, 8, 8, 8, 8, 8, 8, 8, 8, 8, 8, 8, 8, 8, 8, 8, 8, 8, 8, 8, 8, 8, 8, 8, 8, 8, 8, 8, 8, 8, 8, 8, 8, 8, 8, 8, 8, 8, 8, 8, 8, 8, 8, 8, 8, 8, 8, 8, 8, 8, 8, 8, 8, 8, 8, 8, 8, 8, 8, 8, 8, 8, 8, 8, 8, 8, 8, 8, 8, 8, 8, 8, 8, 8, 8, 8, 8, 8, 8, 8, 8, 8, 8, 8, 8, 8, 8, 8, 8, 8, 8, 8, 8, 8, 8, 8, 8, 8, 8, 8, 8, 8, 8, 8, 8, 8, 8, 8, 8, 8, 8, 8, 8, 8, 8]
set_option maxRecDepth 100000 in
theorem len8_len : len8.length = 256 := by decide +kernel
set_option maxRecDepth 100000 in
theorem len8_all : ∀ i : Fin 256, bl len8 i.val = (bitLen i.val : Int) := by decide +kernel
theorem len8_get {i : Nat} (h : i < 256) : bl len8 i = (bitLen i : Int) := len8_all ⟨i, h⟩
theorem bitLen_sz (x : Nat) (h : x < 18446744073709551616) : bitLen x ≤ 64 ∧ sz x = if (bitLen x + 7) / 8 < 1 then 1 else (bitLen x + 7) / 8 := by
  have key : ∀ m : Nat, bitLen x ≤ m ↔ x < 2 ^ m := by
    intro m
    unfold bitLen
    split
    · rename_i h0; subst h0; have := Nat.two_pow_pos m; omega
    · rename_i h0
      rw [← Nat.log2_lt h0]; omega
  have k0 := key 8
  have k1 := key 16
  have k2 := key 24
  have k3 := key 32
  have k4 := key 40
  have k5 := key 48
  have k6 := key 56
  have k7 := key 64
  simp only [show (2:Nat) ^ 8 = 256 by decide, show (2:Nat) ^ 16 = 65536 by decide, show (2:Nat) ^ 24 = 16777216 by decide, show (2:Nat) ^ 32 = 4294967296 by decide, show (2:Nat) ^ 40 = 1099511627776 by decide, show (2:Nat) ^ 48 = 281474976710656 by decide, show (2:Nat) ^ 56 = 72057594037927936 by decide, show (2:Nat) ^ 64 = 18446744073709551616 by decide] at k0 k1 k2 k3 k4 k5 k6 k7
  refine ⟨k7.2 h, ?_⟩
  unfold sz
  repeat' split
  all_goals omega
theorem take_snoc (l : List Int) {k : Nat} (h : k < l.length) : l.take (k + 1) = l.take k ++ [l.getD k 0] := by
  rw [List.take_succ_eq_append_getElem h, List.getD_eq_getElem?_getD, List.getElem?_eq_getElem h]; rfl

end Go.NumP
