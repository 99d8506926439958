/-
  Numbers in blocks of bits, as plain lists. No condition beyond those that each theorem names.
-/
import Derived.Test.YthimiheeheaaaaaLiveR
namespace Go.PackP
open Go.Gw Go.NumP Go.LiveP
set_option linter.unusedVariables false
set_option linter.unusedSimpArgs false

/-! ### how many bits -/
theorem bitLen_le (x m : Nat) : bitLen x ≤ m ↔ x < 2 ^ m := by
  unfold bitLen
  split
  · rename_i h0; subst h0; have := Nat.two_pow_pos m; omega
  · rename_i h0
    rw [← Nat.log2_lt h0]; omega
theorem bitLen_lt (x : Nat) : x < 2 ^ bitLen x := (bitLen_le x _).1 (Nat.le_refl _)
theorem bitLen_zero : bitLen 0 = 0 := rfl
theorem bitLen_half {x : Nat} (h : 0 < x) : bitLen x = bitLen (x / 2) + 1 := by
  apply Nat.le_antisymm
  · rw [bitLen_le]
    have := bitLen_lt (x / 2)
    rw [Nat.pow_succ]; omega
  · have h1 : 0 < bitLen x := by
      rcases Nat.eq_zero_or_pos (bitLen x) with h2 | h2
      · have := bitLen_lt x; rw [h2] at this; omega
      · exact h2
    have h2 : bitLen (x / 2) ≤ bitLen x - 1 := by
      rw [bitLen_le]
      have := bitLen_lt x
      obtain ⟨m, hm⟩ : ∃ m, bitLen x = m + 1 := ⟨bitLen x - 1, by omega⟩
      rw [hm] at this ⊢
      rw [Nat.pow_succ] at this
      simp only [Nat.add_sub_cancel]; omega
    omega
def wid (l : List Int) : Nat := l.foldl (fun a x => max a (bitLen x.toNat)) 0
theorem wid_nil : wid [] = 0 := rfl
theorem wid_snoc {l : List Int} {k : Nat} (h : k < l.length) : wid (l.take (k + 1)) = max (wid (l.take k)) (bitLen (l.getD k 0).toNat) := by
  rw [take_snoc l h]
  unfold wid
  rw [List.foldl_append]; rfl
theorem wid_step {l : List Int} {k : Nat} (h : k < l.length) : (if ((wid (l.take k) : Nat) : Int) < ((bitLen (l.getD k 0).toNat : Nat) : Int) then ((bitLen (l.getD k 0).toNat : Nat) : Int) else ((wid (l.take k) : Nat) : Int)) = ((wid (l.take (k + 1)) : Nat) : Int) := by
  rw [wid_snoc h]; split <;> omega
theorem wid_fold (l : List Int) : ∀ a, a ≤ l.foldl (fun a x => max a (bitLen x.toNat)) a ∧ (∀ x ∈ l, bitLen x.toNat ≤ l.foldl (fun a x => max a (bitLen x.toNat)) a) := by
  induction l with
  | nil => intro a; exact ⟨Nat.le_refl _, fun x h => by cases h⟩
  | cons y l ih =>
    intro a
    have := ih (max a (bitLen y.toNat))
    simp only [List.foldl_cons]
    refine ⟨by omega, fun x hx => ?_⟩
    rcases List.mem_cons.1 hx with rfl | hx
    · omega
    · exact this.2 x hx
theorem wid_mem {l : List Int} {x : Int} (h : x ∈ l) : x.toNat < 2 ^ wid l := by
  have := (wid_fold l 0).2 x h
  exact (bitLen_le _ _).1 this
theorem wid_le {l : List Int} {m : Nat} (h : ∀ x ∈ l, x.toNat < 2 ^ m) : wid l ≤ m := by
  have key : ∀ (l : List Int) (a : Nat), a ≤ m → (∀ x ∈ l, x.toNat < 2 ^ m) → l.foldl (fun a x => max a (bitLen x.toNat)) a ≤ m := by
    intro l
    induction l with
    | nil => intro a ha _; exact ha
    | cons y l ih =>
      intro a ha hl
      refine ih _ ?_ (fun x hx => hl x (List.mem_cons_of_mem _ hx))
      have := (bitLen_le _ _).2 (hl y (List.mem_cons_self ..))
      exact Nat.max_le.2 ⟨ha, this⟩
  exact key l 0 (Nat.zero_le _) h
def Fit (l : List Int) : Prop := ∀ x ∈ l, 0 ≤ x ∧ x ≤ 9223372036854775807
theorem wid63 {l : List Int} (h : Fit l) : wid l ≤ 63 := wid_le fun x hx => by have := h x hx; omega
theorem Fit.at {l : List Int} (h : Fit l) (j : Nat) : 0 ≤ l.getD j 0 ∧ l.getD j 0 ≤ 9223372036854775807 := by
  rw [List.getD_eq_getElem?_getD]
  rcases Nat.lt_or_ge j l.length with h1 | h1
  · rw [List.getElem?_eq_getElem h1]; exact h _ (List.getElem_mem h1)
  · rw [List.getElem?_eq_none h1]; decide
theorem Fit.take {l : List Int} (h : Fit l) (j : Nat) : Fit (l.take j) := fun x hx => h x (List.mem_of_mem_take hx)
theorem Fit.drop {l : List Int} (h : Fit l) (j : Nat) : Fit (l.drop j) := fun x hx => h x (List.mem_of_mem_drop hx)
theorem wid_at {l : List Int} (h : Fit l) {j : Nat} (hj : j < l.length) : (l.getD j 0).toNat < 2 ^ wid l := by
  rw [List.getD_eq_getElem?_getD, List.getElem?_eq_getElem hj]; exact wid_mem (List.getElem_mem hj)

/-! ### the stream of bits -/
def nb (l : List Int) (W p : Nat) : Bool := (l.getD (p / W) 0).toNat.testBit (p % W)
def strm (l : List Int) (W k : Nat) : Nat → Bool := fun p => decide (p < k) && nb l W p
def updb (f : Nat → Bool) (k : Nat) (b : Bool) : Nat → Bool := fun i => f i || (decide (i = k) && b)
theorem updb_true (f : Nat → Bool) (k : Nat) : updb f k true = upd f k := by funext i; simp [updb, upd]
theorem updb_false (f : Nat → Bool) (k : Nat) : updb f k false = f := by funext i; simp [updb]
theorem strm_zero (l : List Int) (W : Nat) : strm l W 0 = fun _ => false := by funext i; simp [strm]
theorem strm_succ (l : List Int) (W k : Nat) : strm l W (k + 1) = updb (strm l W k) k (nb l W k) := by
  funext i
  unfold updb strm
  rcases Nat.lt_trichotomy i k with h | h | h
  · rw [decide_eq_true (show i < k + 1 by omega), decide_eq_true h, decide_eq_false (show ¬ i = k by omega)]; simp
  · subst h; simp
  · rw [decide_eq_false (show ¬ i < k + 1 by omega), decide_eq_false (show ¬ i < k by omega), decide_eq_false (show ¬ i = k by omega)]; simp
theorem strm_self (l : List Int) (W k : Nat) : strm l W k k = false := by simp [strm]
theorem nb_at {l : List Int} {W i k : Nat} (hk : k < W) : nb l W (i * W + k) = (l.getD i 0).toNat.testBit k := by
  unfold nb
  have h1 : (i * W + k) / W = i := by rw [Nat.mul_comm, Nat.mul_add_div (by omega), Nat.div_eq_of_lt hk]; omega
  have h2 : (i * W + k) % W = k := by rw [Nat.mul_comm, Nat.mul_add_mod, Nat.mod_eq_of_lt hk]
  rw [h1, h2]
theorem bit_orz : ∀ x : Fin 256, IntKind.wrap .u8 ((BitVec.ofInt (IntKind.bits .u8) ((x.val : Nat) : Int) ||| BitVec.ofInt (IntKind.bits .u8) ((0 : Nat) : Int)).toNat : Int) = ((x.val : Nat) : Int) := by decide +kernel
theorem byteN_orb {f : Nat → Bool} {k : Nat} {b : Bool} (h : f k = false) :
    IntKind.wrap .u8 ((BitVec.ofInt (IntKind.bits .u8) ((byteN f (k / 8) : Nat) : Int) ||| BitVec.ofInt (IntKind.bits .u8) ((b2 b (2 ^ (k % 8)) : Nat) : Int)).toNat : Int) = ((byteN (updb f k b) (k / 8) : Nat) : Int) := by
  cases b with
  | true => rw [updb_true]; exact byteN_or h
  | false => rw [updb_false]; exact bit_orz ⟨byteN f (k / 8), byteN_lt _ _⟩
theorem packI_setb {m k : Nat} {f : Nat → Bool} {b : Bool} (hk : k / 8 < m) : (packI m f).set (k / 8) ((byteN (updb f k b) (k / 8) : Nat) : Int) = packI m (updb f k b) := by
  cases b with
  | true => rw [updb_true]; exact packI_set hk
  | false =>
    rw [updb_false]
    refine List.ext_getElem (by simp [packI]) fun j h1 h2 => ?_
    simp only [packI, List.getElem_set, List.getElem_map, List.getElem_range]
    split
    · rename_i e; rw [e]
    · rfl
/-- a block -/
def blkM (l : List Int) : Nat := (wid l * l.length + 7) / 8
def blkI (l : List Int) (k : Nat) : List Int := ((wid l : Nat) : Int) :: packI (blkM l) (strm l (wid l) k)
def blkB (l : List Int) : List UInt8 := bytesOf (blkI l (wid l * l.length))
theorem blkI_len (l : List Int) (k : Nat) : (blkI l k).length = blkM l + 1 := by simp [blkI, packI_len]
theorem blkI_bd {l : List Int} (h : Fit l) (k : Nat) : ∀ x ∈ blkI l k, 0 ≤ x ∧ x ≤ 255 := by
  intro x hx
  rcases List.mem_cons.1 hx with rfl | hx
  · have := wid63 h; omega
  · exact packI_bd _ _ x hx
theorem bytesOf_lenP (l : List Int) : (bytesOf l).length = l.length := by simp [bytesOf]
theorem blkB_len (l : List Int) : (blkB l).length = blkM l + 1 := by unfold blkB; rw [bytesOf_lenP, blkI_len]
theorem blkI_zero (l : List Int) : (List.replicate (blkM l + 1) (0 : Int)).set 0 ((wid l : Nat) : Int) = blkI l 0 := by
  unfold blkI; rw [strm_zero, packI_zero]; rfl
theorem blkI_get {l : List Int} {p : Nat} (h : p / 8 < blkM l) (k : Nat) : (blkI l k).getD (p / 8 + 1) 0 = ((byteN (strm l (wid l) k) (p / 8) : Nat) : Int) := by
  unfold blkI; rw [List.getD_cons_succ, packI_get _ h]
theorem blkI_set {l : List Int} {i k : Nat} (hk : k < wid l) (h : (i * wid l + k) / 8 < blkM l) :
    (blkI l (i * wid l + k)).set ((i * wid l + k) / 8 + 1) ((byteN (updb (strm l (wid l) (i * wid l + k)) (i * wid l + k) ((l.getD i 0).toNat.testBit k)) ((i * wid l + k) / 8) : Nat) : Int) = blkI l (i * wid l + (k + 1)) := by
  unfold blkI
  rw [List.set_cons_succ, packI_setb h, ← Nat.add_assoc, strm_succ, nb_at hk]
theorem mul_le128 {W n : Nat} (hW : W ≤ 63) (hn : n ≤ 128) : W * n ≤ 8064 := Nat.le_trans (Nat.mul_le_mul hW hn) (by decide)
theorem at_le {W i n : Nat} (hi : i < n) : i * W + W ≤ W * n := by
  rw [← Nat.succ_mul, Nat.mul_comm W n]; exact Nat.mul_le_mul_right _ hi
/-- the lowest bit of what is left -/
theorem bit_of {x : Int} (hx : 0 ≤ x) (k : Nat) : x / ((2 ^ k : Nat) : Int) % 2 = ((b2 (x.toNat.testBit k) 1 : Nat) : Int) := by
  obtain ⟨n, rfl⟩ : ∃ n : Nat, x = (n : Int) := ⟨x.toNat, by omega⟩
  rw [Int.toNat_natCast, Nat.testBit_eq_decide_div_mod_eq]
  have : (n / 2 ^ k) % 2 < 2 := Nat.mod_lt _ (by decide)
  rw [← Int.natCast_ediv]
  rcases Decidable.em ((n / 2 ^ k) % 2 = 1) with h | h
  · rw [decide_eq_true h]; simp only [b2, cond_true]; omega
  · rw [decide_eq_false h]; simp only [b2, cond_false]; omega
theorem shl_bit {x : Int} (hx : 0 ≤ x) (k : Nat) {r : Nat} (h : r < 8) : IntKind.wrap .u8 (x / ((2 ^ k : Nat) : Int) % 2 * 2 ^ (min (Int.toNat ((r : Nat) : Int)) (IntKind.bits .u8))) = ((b2 (x.toNat.testBit k) (2 ^ r) : Nat) : Int) := by
  rw [bit_of hx]
  cases x.toNat.testBit k with
  | true => exact shl8 h
  | false => show IntKind.wrap .u8 (0 * _) = 0; rw [Int.zero_mul]; rfl
theorem shr64 {x : Int} {k : Nat} (h : k < 64) : x.fdiv (2 ^ (min (Int.toNat ((k : Nat) : Int)) (IntKind.bits .i64))) = x / ((2 ^ k : Nat) : Int) := by
  rw [show min (Int.toNat ((k : Nat) : Int)) (IntKind.bits .i64) = k by simp [IntKind.bits]; omega]
  rw [fdiv_pow x k ((2 ^ k : Nat) : Int) (by simp) (Int.natCast_nonneg _)]

/-! ### packing -/
def chunk (l : List Int) (j : Nat) : List Int := (l.drop (128 * j)).take 128
def pre (l : List Int) (j : Nat) : List UInt8 := (List.range j).flatMap fun q => blkB (chunk l q)
def cnt (l : List Int) : Nat := (l.length + 127) / 128
theorem pre_succ (l : List Int) (j : Nat) : pre l (j + 1) = pre l j ++ blkB (chunk l j) := by
  unfold pre; rw [List.range_succ, List.flatMap_append]; simp
theorem pre_zero (l : List Int) : pre l 0 = [] := rfl
theorem chunk_len (l : List Int) (j : Nat) : (chunk l j).length = min 128 (l.length - 128 * j) := by simp [chunk]
theorem Fit.chunk {l : List Int} (h : Fit l) (j : Nat) : Fit (chunk l j) := (h.drop _).take _
theorem blkB_le {l : List Int} (h : Fit l) (hl : l.length ≤ 128) : (blkB l).length ≤ 1009 := by
  rw [blkB_len]; have := mul_le128 (wid63 h) hl; unfold blkM; omega
theorem pre_len {l : List Int} (h : Fit l) (j : Nat) : (pre l j).length ≤ 1009 * j := by
  induction j with
  | zero => simp [pre]
  | succ j ih =>
    rw [pre_succ, List.length_append]
    have := blkB_le (h.chunk j) (by rw [chunk_len]; omega)
    omega
def negs (l : List Int) : Bool := l.any fun x => decide (x < 0)
def packT (l : List Int) : List UInt8 := if negs l = true then [] else bytesOf (numB (l.length : Int)) ++ pre l (cnt l)
def packE (l : List Int) : Int := if negs l = true then 1 else 0
theorem negs_no {l : List Int} (h : ∀ j, j < l.length → ¬ l.getD j 0 < 0) : negs l = false := by
  unfold negs; rw [List.any_eq_false]
  intro x hx
  obtain ⟨j, hj, rfl⟩ := List.getElem_of_mem hx
  have := h j hj
  rw [List.getD_eq_getElem?_getD, List.getElem?_eq_getElem hj, Option.getD_some] at this
  simpa using this
theorem negs_yes {l : List Int} {j : Nat} (hj : j < l.length) (h : l.getD j 0 < 0) : negs l = true := by
  unfold negs; rw [List.any_eq_true]
  rw [List.getD_eq_getElem?_getD, List.getElem?_eq_getElem hj, Option.getD_some] at h
  exact ⟨_, List.getElem_mem hj, decide_eq_true h⟩
theorem fit_of {l : List Int} (h : negs l = false) (hw : ∀ n ∈ l, n ≤ 9223372036854775807) : Fit l := by
  intro x hx
  unfold negs at h; rw [List.any_eq_false] at h
  have := h x hx
  have h2 := hw x hx
  simp only [decide_eq_true_eq] at this
  omega
theorem negs_fit {l : List Int} (h : Fit l) : negs l = false := negs_no fun j hj => by have := h.at j; omega
theorem cnt_end {l : List Int} {j : Nat} (h : ¬ 0 < l.length - 128 * j) (hj : 128 * j ≤ l.length + 127) : j = cnt l := by unfold cnt; omega

/-! ### reading -/
def numV (t : List UInt8) (W i : Nat) : Nat → Nat
  | 0 => 0
  | k + 1 => numV t W i k + b2 (bitT t (i * W + k)) (2 ^ k)
theorem numV_lt (t : List UInt8) (W i : Nat) : ∀ k, numV t W i k < 2 ^ k
  | 0 => by simp [numV]
  | k + 1 => by
    have := numV_lt t W i k
    have h2 := b2_le (bitT t (i * W + k)) (2 ^ k)
    rw [numV, Nat.pow_succ]; omega
def numsU (t : List UInt8) (W n i k : Nat) : List Int := (List.range n).map fun j => if j < i then ((numV t W j W : Nat) : Int) else if j = i then ((numV t W i k : Nat) : Int) else 0
def numsT (t : List UInt8) (W n : Nat) : List Int := (List.range n).map fun j => ((numV t W j W : Nat) : Int)
theorem numsU_len (t : List UInt8) (W n i k : Nat) : (numsU t W n i k).length = n := by simp [numsU]
theorem numsT_len (t : List UInt8) (W n : Nat) : (numsT t W n).length = n := by simp [numsT]
theorem numsU_zero (t : List UInt8) (W n : Nat) : numsU t W n 0 0 = List.replicate n 0 := by
  refine List.ext_getElem (by simp [numsU]) fun j h1 h2 => ?_
  simp only [numsU, List.getElem_map, List.getElem_range, List.getElem_replicate, Nat.not_lt_zero, if_false, numV]
  split <;> rfl
theorem numsU_end (t : List UInt8) (W n i : Nat) : numsU t W n i W = numsU t W n (i + 1) 0 := by
  refine List.ext_getElem (by simp [numsU]) fun j h1 h2 => ?_
  simp only [numsU, List.getElem_map, List.getElem_range]
  rcases Nat.lt_trichotomy j i with h | h | h
  · rw [if_pos h, if_pos (by omega)]
  · subst h; rw [if_neg (by omega), if_pos rfl, if_pos (by omega)]
  · rw [if_neg (by omega), if_neg (by omega), if_neg (by omega)]
    split
    · simp [numV]
    · rfl
theorem numsU_all (t : List UInt8) (W n : Nat) : numsU t W n n 0 = numsT t W n := by
  refine List.ext_getElem (by simp [numsU, numsT]) fun j h1 h2 => ?_
  have : j < n := by simpa [numsU] using h1
  simp only [numsU, numsT, List.getElem_map, List.getElem_range]
  rw [if_pos this]
theorem numsU_get {t : List UInt8} {W n i k : Nat} (h : i < n) : (numsU t W n i k).getD i 0 = ((numV t W i k : Nat) : Int) := by
  simp [numsU, List.getD_eq_getElem?_getD, h]
theorem numsU_set {t : List UInt8} {W n i k : Nat} (h : i < n) : (numsU t W n i k).set i ((numV t W i (k + 1) : Nat) : Int) = numsU t W n i (k + 1) := by
  refine List.ext_getElem (by simp [numsU]) fun j h1 h2 => ?_
  simp only [numsU, List.getElem_set, List.getElem_map, List.getElem_range]
  split
  · rename_i e; subst e; rw [if_neg (by omega), if_pos rfl]
  · rename_i e
    split
    · rfl
    · rw [if_neg (fun z => e z.symm), if_neg (fun z => e z.symm)]
theorem numsU_set0 {t : List UInt8} {W n i k : Nat} (h : i < n) (hb : bitT t (i * W + k) = false) : numsU t W n i k = numsU t W n i (k + 1) := by
  unfold numsU; rw [numV, hb]; rfl
theorem numsT_fit {t : List UInt8} {W n : Nat} (hW : W ≤ 63) : Fit (numsT t W n) := by
  intro x hx
  obtain ⟨j, _, rfl⟩ := List.mem_map.1 hx
  have h1 := numV_lt t W j W
  have h2 : 2 ^ W ≤ 2 ^ 63 := Nat.pow_le_pow_right (by decide) hW
  omega
/-- one more bit on top -/
theorem or_top {x k : Nat} {b : Bool} (hx : x < 2 ^ k) (hk : k ≤ 62) : IntKind.wrap .i64 ((BitVec.ofInt (IntKind.bits .i64) ((x : Nat) : Int) ||| BitVec.ofInt (IntKind.bits .i64) ((b2 b (2 ^ k) : Nat) : Int)).toNat : Int) = ((x + b2 b (2 ^ k) : Nat) : Int) := by
  have h2 : 2 ^ k ≤ 2 ^ 62 := Nat.pow_le_pow_right (by decide) hk
  have hb := b2_le b (2 ^ k)
  show IntKind.wrap .i64 ((BitVec.ofInt 64 ((x : Nat) : Int) ||| BitVec.ofInt 64 ((b2 b (2 ^ k) : Nat) : Int)).toNat : Int) = _
  rw [BitVec.toNat_or, BitVec.ofInt_natCast, BitVec.ofInt_natCast, BitVec.toNat_ofNat, BitVec.toNat_ofNat, Nat.mod_eq_of_lt (by omega), Nat.mod_eq_of_lt (by omega)]
  have e : x ||| b2 b (2 ^ k) = x + b2 b (2 ^ k) := by
    cases b with
    | false => simp [b2]
    | true =>
      simp only [b2, cond_true]
      rw [Nat.or_comm, Nat.add_comm]
      have := Nat.two_pow_add_eq_or_of_lt (i := k) (b := x) hx 1
      rw [Nat.mul_one] at this
      exact this.symm
  rw [e]
  exact IntWalk.i64_in _ (by omega)
theorem shl_top {x : Int} (r : Nat) {k : Nat} (hx : 0 ≤ x) (hk : k ≤ 62) : IntKind.wrap .i64 (x / ((2 ^ r : Nat) : Int) % 2 * 2 ^ (min (Int.toNat ((k : Nat) : Int)) (IntKind.bits .i64))) = ((b2 (x.toNat.testBit r) (2 ^ k) : Nat) : Int) := by
  have h2 : 2 ^ k ≤ 2 ^ 62 := Nat.pow_le_pow_right (by decide) hk
  rw [bit_of hx, show min (Int.toNat ((k : Nat) : Int)) (IntKind.bits .i64) = k by simp [IntKind.bits]; omega]
  cases x.toNat.testBit r with
  | true =>
    simp only [b2, cond_true]
    rw [show ((1 : Nat) : Int) * 2 ^ k = ((2 ^ k : Nat) : Int) by simp]
    generalize 2 ^ k = z at *
    exact IntWalk.i64_in _ (by omega)
  | false => show IntKind.wrap .i64 (0 * _) = 0; rw [Int.zero_mul]; rfl
theorem bitT_test (t : List UInt8) (i : Nat) : bitT t i = (bl t (i / 8)).toNat.testBit (i % 8) := by
  unfold bitT
  have := bl_bd t (i / 8)
  rw [bit_of (by omega)]
  cases (bl t (i / 8)).toNat.testBit (i % 8) <;> rfl

/-- the bytes of one block that stands at a place -/
def longOf (W m : Nat) : Nat := (W * m + 7) / 8
def rdF (s : List UInt8) (n : Nat) (acc : List Int) (at_ : Nat) : List Int × Nat × Int :=
  if acc.length < n then
    if s.length ≤ at_ then ([], 0, 2)
    else if 63 < bl s at_ then ([], 0, 3)
    else if s.length - at_ < longOf (bl s at_).toNat (min (n - acc.length) 128) + 1 then ([], 0, 2)
    else if blkB (numsT ((s.take (at_ + (longOf (bl s at_).toNat (min (n - acc.length) 128) + 1))).drop (at_ + 1)) (bl s at_).toNat (min (n - acc.length) 128)) ≠ (s.take (at_ + (longOf (bl s at_).toNat (min (n - acc.length) 128) + 1))).drop at_ then ([], 0, 3)
    else rdF s n (acc ++ numsT ((s.take (at_ + (longOf (bl s at_).toNat (min (n - acc.length) 128) + 1))).drop (at_ + 1)) (bl s at_).toNat (min (n - acc.length) 128)) (at_ + (longOf (bl s at_).toNat (min (n - acc.length) 128) + 1))
  else (acc, at_, 0)
termination_by n - acc.length
decreasing_by rw [List.length_append, numsT_len]; omega
def readP (s : List UInt8) : List Int × Nat × Int := if (cntP s).2.2 ≠ 0 then ([], 0, (cntP s).2.2) else rdF s (cntP s).1.toNat [] (cntP s).2.1.toNat
section
variable {s : List UInt8} {n : Nat} {acc : List Int} {at_ : Nat} {m W L : Nat} {p q : List UInt8}
theorem rdF_end (h : ¬ acc.length < n) : rdF s n acc at_ = (acc, at_, 0) := by rw [rdF, if_neg h]
theorem rdF_short (h : acc.length < n) (h1 : s.length ≤ at_) : rdF s n acc at_ = ([], 0, 2) := by rw [rdF, if_pos h, if_pos h1]
theorem rdF_wide (h : acc.length < n) (h1 : ¬ s.length ≤ at_) (h2 : 63 < bl s at_) : rdF s n acc at_ = ([], 0, 3) := by rw [rdF, if_pos h, if_neg h1, if_pos h2]
theorem rdF_cut (h : acc.length < n) (h1 : ¬ s.length ≤ at_) (h2 : ¬ 63 < bl s at_) (hm : m = min (n - acc.length) 128) (hW : W = (bl s at_).toNat) (hL : L = longOf W m) (h3 : s.length - at_ < L + 1) : rdF s n acc at_ = ([], 0, 2) := by
  subst hL; subst hW; subst hm
  rw [rdF, if_pos h, if_neg h1, if_neg h2, if_pos h3]
theorem rdF_form (h : acc.length < n) (h1 : ¬ s.length ≤ at_) (h2 : ¬ 63 < bl s at_) (hm : m = min (n - acc.length) 128) (hW : W = (bl s at_).toNat) (hL : L = longOf W m) (h3 : ¬ s.length - at_ < L + 1)
    (hp : p = (s.take (at_ + (L + 1))).drop (at_ + 1)) (hq : q = (s.take (at_ + (L + 1))).drop at_) (h4 : blkB (numsT p W m) ≠ q) : rdF s n acc at_ = ([], 0, 3) := by
  subst hq; subst hp; subst hL; subst hW; subst hm
  rw [rdF, if_pos h, if_neg h1, if_neg h2, if_neg h3, if_pos h4]
theorem rdF_go (h : acc.length < n) (h1 : ¬ s.length ≤ at_) (h2 : ¬ 63 < bl s at_) (hm : m = min (n - acc.length) 128) (hW : W = (bl s at_).toNat) (hL : L = longOf W m) (h3 : ¬ s.length - at_ < L + 1)
    (hp : p = (s.take (at_ + (L + 1))).drop (at_ + 1)) (hq : q = (s.take (at_ + (L + 1))).drop at_) (h4 : blkB (numsT p W m) = q) : rdF s n acc at_ = rdF s n (acc ++ numsT p W m) (at_ + (L + 1)) := by
  subst hq; subst hp; subst hL; subst hW; subst hm
  rw [rdF, if_pos h, if_neg h1, if_neg h2, if_neg h3, if_neg (fun z => z h4)]
end
end Go.PackP
namespace Go.PackP
open Go.Gw Go.NumP Go.LiveP
set_option linter.unusedVariables false
set_option linter.unusedSimpArgs false
theorem lst_ext {a b : List Int} (h : a.length = b.length) (h2 : ∀ j, j < a.length → a.getD j 0 = b.getD j 0) : a = b := by
  apply List.ext_getElem h
  intro j h3 h4
  have := h2 j h3
  rwa [List.getD_eq_getElem?_getD, List.getD_eq_getElem?_getD, List.getElem?_eq_getElem h3, List.getElem?_eq_getElem h4] at this
theorem lst_ne {a b : List Int} {j : Nat} (h : ¬ a.getD j 0 = b.getD j 0) : ¬ a = b := fun e => h (by rw [e])
/-! ### the reference -/
theorem rwid_half {x : Int} (h : x > 0) : bitLen (x / 2).toNat + 1 = bitLen x.toNat := by
  obtain ⟨n, rfl⟩ : ∃ n : Nat, x = (n : Int) := ⟨x.toNat, by omega⟩
  have e : ((n : Int) / 2).toNat = n / 2 := by omega
  rw [e, Int.toNat_natCast]
  exact (bitLen_half (by omega)).symm
theorem rwid_zero {x : Int} (h : ¬ x > 0) : bitLen x.toNat = 0 := by
  have : x.toNat = 0 := by omega
  rw [this]; rfl
theorem wid_up {l : List Int} {k : Nat} (h : k < l.length) (h2 : ((bitLen (l.getD k 0).toNat : Nat) : Int) > ((wid (l.take k) : Nat) : Int)) : bitLen (l.getD k 0).toNat = wid (l.take (k + 1)) := by
  rw [wid_snoc h]; omega
theorem wid_stay {l : List Int} {k : Nat} (h : k < l.length) (h2 : ¬ ((bitLen (l.getD k 0).toNat : Nat) : Int) > ((wid (l.take k) : Nat) : Int)) : wid (l.take k) = wid (l.take (k + 1)) := by
  rw [wid_snoc h]; omega
/-- the bits as numbers -/
def allB (l : List Int) (W k : Nat) : List Int := (List.range k).map fun p => ((b2 (nb l W p) 1 : Nat) : Int)
theorem allB_len (l : List Int) (W k : Nat) : (allB l W k).length = k := by simp [allB]
theorem allB_zero (l : List Int) (W : Nat) : allB l W 0 = [] := rfl
theorem allB_succ {l : List Int} {W i k : Nat} (h : k < W) (hl : 0 ≤ l.getD i 0) : allB l W (i * W + k) ++ [l.getD i 0 / ((2 ^ k : Nat) : Int) % 2] = allB l W (i * W + (k + 1)) := by
  rw [← Nat.add_assoc, bit_of hl, ← nb_at h]
  unfold allB
  rw [List.range_succ, List.map_append]; rfl
theorem allB_get {l : List Int} {W k p : Nat} (h : p < k) : (allB l W k).getD p 0 = ((b2 (strm l W k p) 1 : Nat) : Int) := by
  unfold strm
  rw [decide_eq_true h, Bool.true_and]
  simp [allB, List.getD_eq_getElem?_getD, h]
/-- the first r bits of a byte -/
def byteS (f : Nat → Bool) (j : Nat) : Nat → Nat
  | 0 => 0
  | r + 1 => byteS f j r + b2 (f (8 * j + r)) (2 ^ r)
theorem byteS_all (f : Nat → Bool) (j : Nat) : byteS f j 8 = byteN f j := by simp [byteS, byteN]
theorem byteS_lt (f : Nat → Bool) (j : Nat) : ∀ r, byteS f j r < 2 ^ r
  | 0 => by simp [byteS]
  | r + 1 => by
    have := byteS_lt f j r
    have h2 := b2_le (f (8 * j + r)) (2 ^ r)
    rw [byteS, Nat.pow_succ]; omega
theorem byteS_stop {f : Nat → Bool} {j : Nat} : ∀ {r : Nat} (m : Nat), (∀ p, 8 * j + r ≤ p → f p = false) → byteS f j (r + m) = byteS f j r
  | r, 0, _ => rfl
  | r, m + 1, h => by
    rw [← Nat.add_assoc, byteS, byteS_stop m h, h _ (by omega)]; rfl
theorem byteS_end {l : List Int} {W n j r : Nat} (hr : r ≤ 8) (h : r = 8 ∨ n ≤ 8 * j + r) : byteS (strm l W n) j r = byteN (strm l W n) j := by
  rw [← byteS_all]
  rcases h with h | h
  · rw [h]
  · have := byteS_stop (f := strm l W n) (j := j) (r := r) (8 - r) (fun p hp => by unfold strm; rw [decide_eq_false (by omega)]; rfl)
    rw [show r + (8 - r) = 8 by omega] at this
    exact this.symm
theorem byteS_step {l : List Int} {W n j r : Nat} (h : 8 * j + r < n) : ((byteS (strm l W n) j r : Nat) : Int) + ((2 ^ r : Nat) : Int) * (allB l W n).getD (8 * j + r) 0 = ((byteS (strm l W n) j (r + 1) : Nat) : Int) := by
  rw [allB_get h, byteS]
  cases strm l W n (8 * j + r) <;> simp [b2]
theorem packI_snoc (f : Nat → Bool) (j : Nat) : packI j f ++ [((byteN f j : Nat) : Int)] = packI (j + 1) f := by
  unfold packI; rw [List.range_succ, List.map_append]; rfl
theorem two_pow_cast (k : Nat) : 2 * ((2 ^ k : Nat) : Int) = ((2 ^ (k + 1) : Nat) : Int) := by rw [Nat.pow_succ]; omega
def wrth (k : Nat) : Int := IntKind.wrap .i64 ((2 ^ k : Nat) : Int)
theorem wrth_lt {k : Nat} (h : k ≤ 62) : wrth k = ((2 ^ k : Nat) : Int) := by
  have h2 : 2 ^ k ≤ 2 ^ 62 := Nat.pow_le_pow_right (by decide) h
  unfold wrth
  generalize 2 ^ k = z at *
  exact IntWalk.i64_in _ (by omega)
theorem wrth_succ {k : Nat} (h : k ≤ 62) : IntKind.wrap .i64 (2 * wrth k) = wrth (k + 1) := by
  rw [wrth_lt h, two_pow_cast]; rfl
theorem wrth_zero : wrth 0 = 1 := by decide
theorem numV_yes {t : List UInt8} {W i k : Nat} (hk : k ≤ 62) (h : bitT t (i * W + k) = true) : ((numV t W i k : Nat) : Int) + wrth k = ((numV t W i (k + 1) : Nat) : Int) := by
  rw [wrth_lt hk, numV, h]; simp [b2]
theorem halves {t : List UInt8} {p m : Nat} : bl t (p / 8) / ((2 ^ m : Nat) : Int) / 2 = bl t (p / 8) / ((2 ^ (m + 1) : Nat) : Int) := half_half
theorem rnd_up {W m : Nat} : W * m / 8 + (if W * m % 8 > 0 then 1 else 0) = longOf W m := by unfold longOf; split <;> omega
end Go.PackP
namespace Go.PackP
open Go.Gw Go.NumP Go.LiveP
theorem shl_bitN {x : Int} (hx : 0 ≤ x) (k : Nat) {r : Nat} (h : r < 8) : IntKind.wrap .u8 (((Int.toNat (x / ((2 ^ k : Nat) : Int) % 2) : Nat) : Int) * 2 ^ (min (Int.toNat ((r : Nat) : Int)) (IntKind.bits .u8))) = ((b2 (x.toNat.testBit k) (2 ^ r) : Nat) : Int) := by
  rw [Int.toNat_of_nonneg (Int.emod_nonneg _ (by decide))]; exact shl_bit hx k h
end Go.PackP
namespace Go.PackP
open Go.Gw Go.NumP Go.LiveP
set_option linter.unusedVariables false
set_option linter.unusedSimpArgs false
theorem take_min {l : List Int} {j : Nat} : List.take (min (List.length (List.drop (128 * j) l)) 128) (List.drop (128 * j) l) = chunk l j := by
  unfold chunk
  rcases Nat.le_total (List.length (List.drop (128 * j) l)) 128 with h | h
  · rw [Nat.min_eq_left h, List.take_of_length_le (Nat.le_refl _), List.take_of_length_le h]
  · rw [Nat.min_eq_right h]
theorem drop_min {l : List Int} {j : Nat} : List.drop (min (List.length (List.drop (128 * j) l)) 128) (List.drop (128 * j) l) = List.drop (128 * (j + 1)) l := by
  rw [List.drop_drop]
  rcases Nat.le_total (List.length (List.drop (128 * j) l)) 128 with h | h
  · rw [Nat.min_eq_left h]
    rw [List.length_drop] at *
    rw [List.drop_eq_nil_of_le (by omega), List.drop_eq_nil_of_le (by omega)]
  · rw [Nat.min_eq_right h]; rfl
theorem chunk_of {l : List Int} {j m : Nat} (h : m = 128 * j + 128 ∨ (m = l.length ∧ l.length ≤ 128 * j + 128)) : List.drop (128 * j) (List.take m l) = chunk l j := by
  unfold chunk
  rw [List.drop_take]
  rcases h with rfl | ⟨rfl, h⟩
  · congr 1; omega
  · rw [List.take_of_length_le (by simp), List.take_of_length_le (by rw [List.length_drop]; omega)]
theorem allB_bit {l : List Int} {W k : Nat} (p : Nat) : (allB l W k).getD p 0 = 0 ∨ (allB l W k).getD p 0 = 1 := by
  rcases Nat.lt_or_ge p k with h | h
  · rw [allB_get h]; cases strm l W k p <;> simp [b2]
  · left
    rw [List.getD_eq_getElem?_getD, List.getElem?_eq_none (by rw [allB_len]; exact h)]; rfl
theorem worth_bit {l : List Int} {W k : Nat} (p : Nat) {r : Nat} (h : r ≤ 7) : 0 ≤ ((2 ^ r : Nat) : Int) * (allB l W k).getD p 0 ∧ ((2 ^ r : Nat) : Int) * (allB l W k).getD p 0 ≤ ((2 ^ r : Nat) : Int) ∧ 2 ^ r ≤ 128 := by
  have h2 : 2 ^ r ≤ 2 ^ 7 := Nat.pow_le_pow_right (by decide) h
  have e7 : (2 : Nat) ^ 7 = 128 := by decide
  rw [e7] at h2
  generalize 2 ^ r = z at *
  rcases allB_bit (l := l) (W := W) (k := k) p with e | e <;> rw [e] <;> omega
theorem pow256 {r : Nat} (h : r ≤ 8) : 2 ^ r ≤ 256 := Nat.pow_le_pow_right (by decide) h
theorem pow_dbl (r : Nat) : 2 * 2 ^ r = 2 ^ (r + 1) := by rw [Nat.pow_succ]; omega
theorem wrth_bd {k : Nat} (h : k ≤ 62) : 1 ≤ wrth k ∧ wrth k ≤ 4611686018427387904 := by
  have h2 : 2 ^ k ≤ 2 ^ 62 := Nat.pow_le_pow_right (by decide) h
  have h3 := Nat.two_pow_pos k
  rw [wrth_lt h]; omega
theorem numV_bd (t : List UInt8) (W i : Nat) {k : Nat} (h : k ≤ 62) : numV t W i k < 4611686018427387904 := by
  have h2 : 2 ^ k ≤ 2 ^ 62 := Nat.pow_le_pow_right (by decide) h
  have := numV_lt t W i k
  omega
theorem bit_odd {t : List UInt8} {p m : Nat} (h : m = p % 8) (e : bl t (p / 8) / ((2 ^ m : Nat) : Int) % 2 = 1) : bitT t p = true := by
  subst h
  have hb := bl_bd t (p / 8)
  rw [bitT_test]
  rw [bit_of (by omega)] at e
  cases hz : (bl t (p / 8)).toNat.testBit (p % 8) with
  | true => rfl
  | false => rw [hz] at e; simp [b2] at e
theorem bit_even {t : List UInt8} {p m : Nat} (h : m = p % 8) (e : ¬ bl t (p / 8) / ((2 ^ m : Nat) : Int) % 2 = 1) : bitT t p = false := by
  subst h
  have hb := bl_bd t (p / 8)
  rw [bitT_test]
  rw [bit_of (by omega)] at e
  cases hz : (bl t (p / 8)).toNat.testBit (p % 8) with
  | true => rw [hz] at e; simp [b2] at e
  | false => rfl
theorem half_nn {x : Int} (h : 0 ≤ x) (k : Nat) : 0 ≤ x / ((2 ^ k : Nat) : Int) := Int.ediv_nonneg h (Int.natCast_nonneg _)
theorem half_le {x : Int} (h : 0 ≤ x) (k : Nat) : x / ((2 ^ k : Nat) : Int) ≤ x := Int.ediv_le_self _ h
theorem half_half' {x : Int} {m : Nat} : x / ((2 ^ m : Nat) : Int) / 2 = x / ((2 ^ (m + 1) : Nat) : Int) := by
  rw [Nat.pow_succ, Int.ediv_ediv_of_nonneg (Int.natCast_nonneg _)]; rfl
/-! ### differences and sums -/
def fillU (f : Nat → Int) (n k : Nat) : List Int := (List.range n).map fun j => if j < k then f j else 0
theorem fillU_len (f : Nat → Int) (n k : Nat) : (fillU f n k).length = n := by simp [fillU]
theorem fillU_zero (f : Nat → Int) (n : Nat) : fillU f n 0 = List.replicate n 0 := by
  refine List.ext_getElem (by simp [fillU]) fun j h1 h2 => ?_
  simp [fillU]
theorem fillU_set {f : Nat → Int} {n k : Nat} : (fillU f n k).set k (f k) = fillU f n (k + 1) := by
  refine List.ext_getElem (by simp [fillU]) fun j h1 h2 => ?_
  simp only [fillU, List.getElem_set, List.getElem_map, List.getElem_range]
  rcases Nat.lt_trichotomy j k with h | h | h
  · rw [if_neg (by omega), if_pos h, if_pos (by omega)]
  · subst h; rw [if_pos rfl, if_pos (by omega)]
  · rw [if_neg (by omega), if_neg (by omega), if_neg (by omega)]
theorem fillU_get {f : Nat → Int} {n k j : Nat} (h : j < k) (h2 : j < n) : (fillU f n k).getD j 0 = f j := by
  simp [fillU, List.getD_eq_getElem?_getD, h, h2]
def lastOf (l : List Int) : Nat → Int
  | 0 => 0
  | k + 1 => l.getD k 0
def dAt (l : List Int) (k : Nat) : Int := IntKind.wrap .i64 (l.getD k 0 - lastOf l k)
def deltas (l : List Int) : List Int := fillU (dAt l) l.length l.length
def sumW (d : List Int) : Nat → Int
  | 0 => 0
  | k + 1 => IntKind.wrap .i64 (sumW d k + d.getD k 0)
def sums (d : List Int) : List Int := fillU (fun j => sumW d (j + 1)) d.length d.length
theorem deltas_len (l : List Int) : (deltas l).length = l.length := fillU_len _ _ _
theorem deltas_get {l : List Int} {j : Nat} (h : j < l.length) : (deltas l).getD j 0 = dAt l j := fillU_get h h
theorem sums_len (l : List Int) : (sums l).length = l.length := fillU_len _ _ _
theorem wrap_back {a b : Int} (h : -9223372036854775808 ≤ b ∧ b ≤ 9223372036854775807) : IntKind.wrap .i64 (a + IntKind.wrap .i64 (b - a)) = b := by
  rw [IntKind.wrap_i64, IntKind.wrap_i64]
  omega
theorem sumW_deltas {l : List Int} (hw : ∀ n ∈ l, -9223372036854775808 ≤ n ∧ n ≤ 9223372036854775807) : ∀ k, k ≤ l.length → sumW (deltas l) k = lastOf l k
  | 0, _ => rfl
  | k + 1, h => by
    rw [sumW, sumW_deltas hw k (by omega), deltas_get (by omega), dAt]
    rw [wrap_back]
    · rfl
    · rw [List.getD_eq_getElem?_getD, List.getElem?_eq_getElem (by omega)]
      exact hw _ (List.getElem_mem _)
theorem sums_deltas {l : List Int} (hw : ∀ n ∈ l, -9223372036854775808 ≤ n ∧ n ≤ 9223372036854775807) : sums (deltas l) = l := by
  refine lst_ext (by rw [sums_len, deltas_len]) fun j hj => ?_
  rw [sums_len, deltas_len] at hj
  unfold sums
  rw [fillU_get (by rw [deltas_len]; exact hj) (by rw [deltas_len]; exact hj), sumW_deltas hw _ hj]; rfl
end Go.PackP
namespace Go.PackP
open Go.Gw Go.NumP Go.LiveP
theorem cntR_eqp (s : List UInt8) : cntR s = s.drop (cntP s).2.1.toNat := rfl
theorem rest_at (s : List UInt8) : ((s.length : Nat) : Int) - (((cntR s).length : Nat) : Int) = (((cntP s).2.1.toNat : Nat) : Int) := by
  have := cntP_bd s
  rw [cntR_eqp, List.length_drop]; omega
theorem readP_err {s : List UInt8} (h : (cntP s).2.2 ≠ 0) : readP s = ([], 0, (cntP s).2.2) := by rw [readP, if_pos h]
theorem readP_ok {s : List UInt8} (h : (cntP s).2.2 = 0) : readP s = rdF s (cntP s).1.toNat [] (cntP s).2.1.toNat := by rw [readP, if_neg (fun z => z h)]
theorem blk_bytes (l : List Int) : bytesOf (((wid l : Nat) : Int) :: packI (blkM l) (strm l (wid l) (wid l * l.length))) = blkB l := rfl
theorem packI_zero' (f : Nat → Bool) : packI 0 f = [] := rfl
end Go.PackP
