/-
  Sets of the living in plain Lean: who lives, who is killed, the bytes of a set. No condition.
-/
import Derived.Test.YthimiheeheaaaaaNumR
namespace Go.LiveP
open Go.Gw Go.NumP
set_option linter.unusedVariables false
set_option linter.unusedSimpArgs false
/-- does d live, where g tells who is gone -/
def lvB (g : List Bool) (d : Int) : Bool := decide (0 ≤ d ∧ d < (g.length : Int)) && !(g.getD d.toNat false)
def killG (g : List Bool) (d : Int) : List Bool := if lvB g d = true then g.set d.toNat true else g
/-- what New answers -/
def newE (n : Int) : Int := if n < 0 then 1 else if n > 1048576 then 4 else 0
theorem newE_ok {n : Int} (h : newE n = 0) : 0 ≤ n ∧ n ≤ 1048576 := by unfold newE at h; split at h; cases h; split at h; cases h; omega
/-- how many live -/
def lft (g : List Bool) : Nat := g.count false
theorem lvB_out {g : List Bool} {d : Int} (h : ¬ (0 ≤ d ∧ d < (g.length : Int))) : lvB g d = false := by
  unfold lvB; rw [decide_eq_false h]; rfl
theorem lvB_in {g : List Bool} {d : Int} (h0 : 0 ≤ d) (h1 : d < (g.length : Int)) : lvB g d = !(g.getD d.toNat false) := by
  unfold lvB; rw [decide_eq_true ⟨h0, h1⟩]; rfl
theorem lvB_yes {g : List Bool} {d : Int} (h : lvB g d = true) : 0 ≤ d ∧ d < (g.length : Int) ∧ g.getD d.toNat false = false := by
  unfold lvB at h
  rw [Bool.and_eq_true] at h
  have := of_decide_eq_true h.1
  exact ⟨this.1, this.2, by simpa using h.2⟩
theorem killG_len (g : List Bool) (d : Int) : (killG g d).length = g.length := by
  unfold killG; split <;> simp
theorem killG_no {g : List Bool} {d : Int} (h : lvB g d = false) : killG g d = g := by unfold killG; rw [if_neg (by simp [h])]
theorem killG_yes {g : List Bool} {d : Int} (h : lvB g d = true) : killG g d = g.set d.toNat true := by unfold killG; rw [if_pos h]
theorem lft_le (g : List Bool) : lft g ≤ g.length := List.count_le_length
theorem lft_set {g : List Bool} {j : Nat} (hj : j < g.length) (h : g.getD j false = false) : lft (g.set j true) + 1 = lft g := by
  unfold lft
  rw [List.getD_eq_getElem?_getD, List.getElem?_eq_getElem hj, Option.getD_some] at h
  rw [List.count_set hj, h]
  have : 0 < List.count false g := List.count_pos_iff.2 (h ▸ List.getElem_mem hj)
  simp; omega
theorem lft_kill {g : List Bool} {d : Int} (h : lvB g d = true) : ((lft (killG g d) : Nat) : Int) = ((lft g : Nat) : Int) - 1 := by
  obtain ⟨a, b, c⟩ := lvB_yes h
  rw [killG_yes h]
  have := lft_set (g := g) (j := d.toNat) (by omega) c
  omega
theorem lft_new (n : Nat) : lft (List.replicate n false) = n := by simp [lft]
theorem lft_pos {g : List Bool} {d : Int} (h : lvB g d = true) : 1 ≤ lft g := by
  obtain ⟨a, b, c⟩ := lvB_yes h
  have := lft_set (g := g) (j := d.toNat) (by omega) c
  omega

/-- the reference: q lists who is gone -/
def rlvB (n : Int) (q : List Int) (d : Int) : Bool := decide (0 ≤ d ∧ d < n) && !(q.contains d)
def killR (n : Int) (q : List Int) (d : Int) : List Int := if rlvB n q d = true then q ++ [d] else q
theorem rlvB_out {n d : Int} {q : List Int} (h : ¬ (0 ≤ d ∧ d < n)) : rlvB n q d = false := by
  unfold rlvB; rw [decide_eq_false h]; rfl
theorem rlvB_in {n d : Int} {q : List Int} (h0 : 0 ≤ d) (h1 : d < n) : rlvB n q d = !(q.contains d) := by
  unfold rlvB; rw [decide_eq_true ⟨h0, h1⟩]; rfl
theorem rlvB_hit {n d : Int} {q : List Int} {j : Nat} (hj : j < q.length) (h : q.getD j 0 = d) : rlvB n q d = false := by
  unfold rlvB
  have : q.contains d = true := by
    rw [List.contains_iff_mem]
    rw [← h, List.getD_eq_getElem?_getD, List.getElem?_eq_getElem hj]
    exact List.getElem_mem hj
  rw [this]; simp
theorem contains_no {d : Int} {q : List Int} (h : ∀ j, j < q.length → q.getD j 0 ≠ d) : q.contains d = false := by
  rw [Bool.eq_false_iff]
  intro hc
  obtain ⟨j, hj, e⟩ := List.getElem_of_mem (List.contains_iff_mem.1 hc)
  refine h j hj ?_
  rw [List.getD_eq_getElem?_getD, List.getElem?_eq_getElem hj]; exact e
theorem rlvB_miss {n d : Int} {q : List Int} (h0 : 0 ≤ d) (h1 : d < n) (h : ∀ j, j < q.length → q.getD j 0 ≠ d) : rlvB n q d = true := by
  rw [rlvB_in h0 h1, contains_no h]; rfl
theorem rlvB_rng {n d : Int} {q : List Int} (h : rlvB n q d = true) : 0 ≤ d ∧ d < n := by
  unfold rlvB at h; rw [Bool.and_eq_true] at h; exact of_decide_eq_true h.1
theorem killR_no {n d : Int} {q : List Int} (h : rlvB n q d = false) : killR n q d = q := by unfold killR; rw [if_neg (by simp [h])]
theorem killR_yes {n d : Int} {q : List Int} (h : rlvB n q d = true) : killR n q d = q ++ [d] := by unfold killR; rw [if_pos h]
theorem killR_len (n d : Int) (q : List Int) : (killR n q d).length ≤ q.length + 1 := by unfold killR; split <;> simp

/-- a byte of bits -/
def b2 (b : Bool) (x : Nat) : Nat := bif b then x else 0
def byteN (f : Nat → Bool) (j : Nat) : Nat := b2 (f (8 * j)) 1 + b2 (f (8 * j + 1)) 2 + b2 (f (8 * j + 2)) 4 + b2 (f (8 * j + 3)) 8 + b2 (f (8 * j + 4)) 16 + b2 (f (8 * j + 5)) 32 + b2 (f (8 * j + 6)) 64 + b2 (f (8 * j + 7)) 128
def packI (m : Nat) (f : Nat → Bool) : List Int := (List.range m).map fun j => ((byteN f j : Nat) : Int)
def upd (f : Nat → Bool) (k : Nat) : Nat → Bool := fun i => f i || decide (i = k)
theorem b2_le (b : Bool) (x : Nat) : b2 b x ≤ x := by cases b <;> simp [b2]
theorem byteN_lt (f : Nat → Bool) (j : Nat) : byteN f j < 256 := by
  unfold byteN
  have h0 := b2_le (f (8 * j)) 1; have h1 := b2_le (f (8 * j + 1)) 2; have h2 := b2_le (f (8 * j + 2)) 4; have h3 := b2_le (f (8 * j + 3)) 8
  have h4 := b2_le (f (8 * j + 4)) 16; have h5 := b2_le (f (8 * j + 5)) 32; have h6 := b2_le (f (8 * j + 6)) 64; have h7 := b2_le (f (8 * j + 7)) 128
  omega
theorem byteN_upd_ne {f : Nat → Bool} {k j : Nat} (h : j ≠ k / 8) : byteN (upd f k) j = byteN f j := by
  have e : ∀ r, r < 8 → upd f k (8 * j + r) = f (8 * j + r) := by
    intro r hr; unfold upd; rw [decide_eq_false (by omega)]; simp
  unfold byteN
  rw [e 1 (by omega), e 2 (by omega), e 3 (by omega), e 4 (by omega), e 5 (by omega), e 6 (by omega), e 7 (by omega)]
  have := e 0 (by omega)
  simp only [Nat.add_zero] at this
  rw [this]
theorem byteN_upd {f : Nat → Bool} {k : Nat} (h : f k = false) : byteN (upd f k) (k / 8) = byteN f (k / 8) + 2 ^ (k % 8) := by
  have hk : k = 8 * (k / 8) + k % 8 := by omega
  generalize hj : k / 8 = j at *
  have hr : k % 8 < 8 := by omega
  generalize k % 8 = r at *
  subst hk
  have e : ∀ s, s < 8 → upd f (8 * j + r) (8 * j + s) = (f (8 * j + s) || decide (s = r)) := by
    intro s hs; unfold upd; congr 1; rw [Bool.eq_iff_iff]; simp
  have e0 := e 0 (by omega)
  simp only [Nat.add_zero] at e0
  unfold byteN
  rw [e0, e 1 (by omega), e 2 (by omega), e 3 (by omega), e 4 (by omega), e 5 (by omega), e 6 (by omega), e 7 (by omega)]
  have hcases : r = 0 ∨ r = 1 ∨ r = 2 ∨ r = 3 ∨ r = 4 ∨ r = 5 ∨ r = 6 ∨ r = 7 := by omega
  rcases hcases with rfl | rfl | rfl | rfl | rfl | rfl | rfl | rfl <;> (try simp only [Nat.add_zero] at h) <;> rw [h] <;> simp [b2] <;> omega
theorem bit_or : ∀ x : Fin 256, ∀ r : Fin 8, x.val.testBit r.val = false → IntKind.wrap .u8 ((BitVec.ofInt (IntKind.bits .u8) ((x.val : Nat) : Int) ||| BitVec.ofInt (IntKind.bits .u8) ((2 ^ r.val : Nat) : Int)).toNat : Int) = ((x.val + 2 ^ r.val : Nat) : Int) := by decide +kernel
theorem byteN_bits : ∀ b0 b1 b2' b3 b4 b5 b6 b7 : Bool, ∀ r : Fin 8, (b2 b0 1 + b2 b1 2 + b2 b2' 4 + b2 b3 8 + b2 b4 16 + b2 b5 32 + b2 b6 64 + b2 b7 128).testBit r.val = [b0, b1, b2', b3, b4, b5, b6, b7].getD r.val false := by decide +kernel
theorem byteN_bit (f : Nat → Bool) (j r : Nat) (hr : r < 8) : (byteN f j).testBit r = f (8 * j + r) := by
  unfold byteN
  rw [byteN_bits _ _ _ _ _ _ _ _ ⟨r, hr⟩]
  have hcases : r = 0 ∨ r = 1 ∨ r = 2 ∨ r = 3 ∨ r = 4 ∨ r = 5 ∨ r = 6 ∨ r = 7 := by omega
  rcases hcases with rfl | rfl | rfl | rfl | rfl | rfl | rfl | rfl <;> simp
theorem byteN_or {f : Nat → Bool} {k : Nat} (h : f k = false) :
    IntKind.wrap .u8 ((BitVec.ofInt (IntKind.bits .u8) ((byteN f (k / 8) : Nat) : Int) ||| BitVec.ofInt (IntKind.bits .u8) ((2 ^ (k % 8) : Nat) : Int)).toNat : Int) = ((byteN (upd f k) (k / 8) : Nat) : Int) := by
  rw [byteN_upd h]
  refine bit_or ⟨byteN f (k / 8), byteN_lt _ _⟩ ⟨k % 8, by omega⟩ ?_
  show (byteN f (k / 8)).testBit (k % 8) = false
  rw [byteN_bit _ _ _ (by omega), show 8 * (k / 8) + k % 8 = k by omega, h]
theorem shl8 {r : Nat} (h : r < 8) : IntKind.wrap .u8 (1 * 2 ^ (min (Int.toNat ((r : Nat) : Int)) (IntKind.bits .u8))) = ((2 ^ r : Nat) : Int) := by
  have key : ∀ r : Fin 8, IntKind.wrap .u8 (1 * 2 ^ (min (Int.toNat ((r.val : Nat) : Int)) (IntKind.bits .u8))) = ((2 ^ r.val : Nat) : Int) := by decide +kernel
  exact key ⟨r, h⟩
theorem pow8 {r : Nat} (h : r < 8) : 2 ^ r ≤ 128 := by
  have key : ∀ r : Fin 8, 2 ^ r.val ≤ 128 := by decide +kernel
  exact key ⟨r, h⟩
theorem packI_len (m : Nat) (f : Nat → Bool) : (packI m f).length = m := by simp [packI]
theorem packI_get {m j : Nat} (f : Nat → Bool) (h : j < m) : (packI m f).getD j 0 = ((byteN f j : Nat) : Int) := by
  simp [packI, List.getD_eq_getElem?_getD, h]
theorem packI_bd (m : Nat) (f : Nat → Bool) : ∀ x ∈ packI m f, 0 ≤ x ∧ x ≤ 255 := by
  intro x hx
  obtain ⟨j, _, rfl⟩ := List.mem_map.1 hx
  have := byteN_lt f j
  omega
theorem packI_set {m k : Nat} {f : Nat → Bool} (hk : k / 8 < m) : (packI m f).set (k / 8) ((byteN (upd f k) (k / 8) : Nat) : Int) = packI m (upd f k) := by
  refine List.ext_getElem (by simp [packI]) fun j h1 h2 => ?_
  simp only [packI, List.getElem_set, List.getElem_map, List.getElem_range]
  split
  · rename_i e; rw [e]
  · rename_i e; rw [byteN_upd_ne (fun z => e z.symm)]
theorem packI_zero (m : Nat) : packI m (fun _ => false) = List.replicate m 0 := by
  refine List.ext_getElem (by simp [packI]) fun j h1 h2 => ?_
  simp [packI, byteN, b2]
/-- the first k of a set -/
def upto (g : List Bool) (k : Nat) : Nat → Bool := fun i => decide (i < k) && g.getD i false
theorem upto_zero (g : List Bool) : upto g 0 = fun _ => false := by funext i; simp [upto]
theorem upto_all (g : List Bool) : upto g g.length = fun i => g.getD i false := by
  funext i
  unfold upto
  rcases Decidable.em (i < g.length) with h | h
  · simp [h]
  · rw [decide_eq_false h, List.getD_eq_getElem?_getD, List.getElem?_eq_none (by omega)]; rfl
theorem upto_no {g : List Bool} {k : Nat} (h : g.getD k false = false) : upto g (k + 1) = upto g k := by
  funext i
  unfold upto
  rcases Nat.lt_trichotomy i k with h1 | h1 | h1
  · simp [h1, Nat.lt_succ_of_lt h1]
  · subst h1; rw [h]; simp
  · rw [decide_eq_false (by omega), decide_eq_false (by omega)]
theorem upto_yes {g : List Bool} {k : Nat} (h : g.getD k false = true) : upto g (k + 1) = upd (upto g k) k := by
  funext i
  unfold upd upto
  rcases Nat.lt_trichotomy i k with h1 | h1 | h1
  · rw [decide_eq_true (show i < k + 1 by omega), decide_eq_true h1, decide_eq_false (show ¬ i = k by omega)]; simp
  · subst h1; rw [h]; simp
  · rw [decide_eq_false (show ¬ i < k + 1 by omega), decide_eq_false (show ¬ i < k by omega), decide_eq_false (show ¬ i = k by omega)]; simp
theorem upto_self (g : List Bool) (k : Nat) : upto g k k = false := by simp [upto]
/-- the bytes of a set -/
def packG (g : List Bool) : List UInt8 := bytesOf (numB (g.length : Int)) ++ bytesOf (packI ((g.length + 7) / 8) fun i => g.getD i false)
theorem numsB_one (n : Int) : numsB [n] = numB n := by simp [numsB]
theorem packG_eq {g : List Bool} {k : Nat} (h : k = g.length) : bytesOf (numsB [((g.length : Nat) : Int)]) ++ bytesOf (packI ((g.length + 7) / 8) (upto g k)) = packG g := by
  subst h; rw [numsB_one, upto_all]; rfl
/-- the reference's first k -/
def uptoR (q : List Int) (k : Nat) : Nat → Bool := fun i => (q.take k).contains (i : Int)
def Wise (n : Int) (q : List Int) : Prop := (∀ j, j < q.length → 0 ≤ q.getD j 0 ∧ q.getD j 0 < n) ∧ ∀ i j, i < j → j < q.length → q.getD i 0 ≠ q.getD j 0
def packR (n : Int) (q : List Int) : List UInt8 := bytesOf (numB n) ++ bytesOf (packI ((n + 7) / 8).toNat fun i : Nat => q.contains ((i : Nat) : Int))
theorem uptoR_zero (q : List Int) : uptoR q 0 = fun _ => false := by funext i; simp [uptoR]
theorem uptoR_all (q : List Int) : uptoR q q.length = fun i : Nat => q.contains ((i : Nat) : Int) := by funext i; simp [uptoR]
theorem uptoR_step {q : List Int} {k d : Nat} (hk : k < q.length) (h : q.getD k 0 = (d : Int)) : uptoR q (k + 1) = upd (uptoR q k) d := by
  funext i
  unfold upd uptoR
  rw [List.take_succ_eq_append_getElem hk]
  rw [List.getD_eq_getElem?_getD, List.getElem?_eq_getElem hk, Option.getD_some] at h
  rw [h, Bool.eq_iff_iff]
  simp only [List.contains_iff_mem, Bool.or_eq_true, decide_eq_true_eq, List.mem_append, List.mem_singleton, Int.natCast_inj]
theorem getD_take {q : List Int} {k j : Nat} (h : j < k) : (q.take k).getD j 0 = q.getD j 0 := by
  rw [List.getD_eq_getElem?_getD, List.getD_eq_getElem?_getD, List.getElem?_take]; simp [h]
theorem uptoR_new {n : Int} {q : List Int} {k d : Nat} (hw : Wise n q) (hk : k < q.length) (h : q.getD k 0 = (d : Int)) : uptoR q k d = false := by
  unfold uptoR
  refine contains_no fun j hj => ?_
  rw [List.length_take] at hj
  rw [getD_take (by omega), ← h]
  exact hw.2 j k (by omega) hk
theorem packR_eq {n : Int} {q : List Int} {k : Nat} (h : k = q.length) : bytesOf (numB n) ++ bytesOf (packI ((n + 7) / 8).toNat (uptoR q k)) = packR n q := by
  subst h; rw [uptoR_all]; rfl
end Go.LiveP
