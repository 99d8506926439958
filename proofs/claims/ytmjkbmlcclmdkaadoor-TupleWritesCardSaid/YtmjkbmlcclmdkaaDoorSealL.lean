/-
  The plain laws of layer 2. No condition beyond those that each theorem names.
-/
import Derived.Test.YtmjkbmlcclmdkaaDoorSealP
import Derived.Test.YtmjkbmlcclmdkaaDoorNumL
import Derived.Test.YtmjkbmlcclmdkaaDoorBts
namespace Go.SealP
open Go.Gw Go.NumP Go.CrcP
set_option linter.unusedVariables false
set_option linter.unusedSimpArgs false

theorem cntP_nil : cntP [] = (0, 0, 2) := by decide +kernel
/-- a number's bytes, cut short -/
theorem cnt_cut {n : Int} (h0 : 0 ≤ n) (hn : n ≤ 9223372036854775807) {j : Nat} (hj : j < (numB n).length) : cntP ((bytesOf (numB n)).take j) = (0, 0, 2) := by
  cases j with
  | zero => exact cntP_nil
  | succ i =>
    by_cases h : 111 < n
    · have hz := sz_bd (n - 112).toNat
      have e : numB n = (239 + (sz (n - 112).toNat : Int)) :: digs (sz (n - 112).toNat) (n - 112).toNat := by unfold numB; rw [if_pos h]
      rw [e] at hj ⊢
      rw [List.length_cons, digs_len] at hj
      generalize hk : sz (n - 112).toNat = k at *
      have e2 : (bytesOf ((239 + (k : Int)) :: digs k (n - 112).toNat)).take (i + 1) = UInt8.ofNat (239 + (k : Int)).toNat :: (bytesOf (digs k (n - 112).toNat)).take i := rfl
      rw [e2]
      generalize hs : UInt8.ofNat (239 + (k : Int)).toNat :: (bytesOf (digs k (n - 112).toNat)).take i = s
      have hb : bl s 0 = 239 + (k : Int) := by
        subst hs
        show (((UInt8.ofNat (239 + (k : Int)).toNat).toNat : Nat) : Int) = _
        rw [UInt8.toNat_ofNat', Nat.mod_eq_of_lt (by omega)]; omega
      have hl : s.length = i + 1 := by subst hs; simp [bytesOf, digs_len]; omega
      have hp : numP s = (0, 0, 2) := by
        unfold numP
        have hk2 : headK (bl s 0) = k := by rw [hb]; unfold headK; split <;> omega
        rw [if_neg (by intro e; rw [e] at hl; simp at hl), if_neg (by omega), if_neg (by omega), if_pos (by rw [hk2]; omega)]
      rw [cntP_no (by rw [hp]; simp), hp]
    · have e : (numB n).length = 1 := by unfold numB; rw [if_neg h, if_neg (by omega)]; rfl
      omega
theorem sz_mono {x y : Nat} (h : x ≤ y) : sz x ≤ sz y := by
  unfold sz
  repeat' split
  all_goals omega
theorem numB_mono {n m : Int} (h0 : 0 ≤ n) (h : n ≤ m) : (numB n).length ≤ (numB m).length := by
  have h1 := sz_mono (show (n - 112).toNat ≤ (m - 112).toNat by omega)
  have h2 := sz_bd (m - 112).toNat
  unfold numB
  split
  · rw [if_pos (by omega)]; simp only [List.length_cons, digs_len]; omega
  · rw [if_neg (by omega)]
    split
    · simp only [List.length_cons, digs_len, List.length_nil]; omega
    · rw [if_neg (by omega)]; simp
theorem blk_len_eq (s : List UInt8) : (blk s).length = (numB (s.length : Int)).length + s.length := by unfold blk; rw [List.length_append, bytesOf_len]
theorem blk_len_inj {s t : List UInt8} (h : (blk s).length = (blk t).length) : s.length = t.length := by
  rw [blk_len_eq, blk_len_eq] at h
  rcases Nat.lt_trichotomy s.length t.length with h1 | h1 | h1
  · have := numB_mono (n := (s.length : Int)) (m := (t.length : Int)) (by omega) (by omega); omega
  · exact h1
  · have := numB_mono (n := (t.length : Int)) (m := (s.length : Int)) (by omega) (by omega); omega
theorem blk_back {s : List UInt8} (hs : s.length ≤ 9223372036854775807) (t : List UInt8) : blkE (blk s ++ t) = 0 ∧ blkS (blk s ++ t) = s ∧ blkR (blk s ++ t) = t := by
  have hc := cntP_back (n := (s.length : Int)) (by omega) (by omega) (s ++ t)
  have e : blk s ++ t = bytesOf (numB (s.length : Int)) ++ (s ++ t) := by unfold blk; rw [List.append_assoc]
  obtain ⟨h1, h2, h3, h4⟩ := blkE_ok (s := blk s ++ t) (by rw [e, hc]) (by rw [e, hc]; simp [bytesOf_len]; omega)
  refine ⟨h1, ?_, ?_⟩
  · rw [h2, e, hc]
    simp only [Int.toNat_natCast]
    rw [← bytesOf_len, List.drop_left, List.take_left]
  · rw [h3, e, hc]
    simp only [Int.toNat_natCast]
    rw [← bytesOf_len, ← List.drop_drop, List.drop_left, List.drop_left]
theorem blk_cut {s : List UInt8} (hs : s.length ≤ 9223372036854775807) {j : Nat} (hj : j < (blk s).length) (F : List UInt8) : blkE ((blk s ++ F).take j) = 2 := by
  have e : (blk s ++ F).take j = (blk s).take j := List.take_append_of_le_length (by omega)
  rw [e]
  by_cases h : j < (numB (s.length : Int)).length
  · have e2 : (blk s).take j = (bytesOf (numB (s.length : Int))).take j := by unfold blk; exact List.take_append_of_le_length (by rw [bytesOf_len]; omega)
    have hc := cnt_cut (n := (s.length : Int)) (by omega) (by omega) h
    rw [e2]
    obtain ⟨h1, _⟩ := blkE_err (s := (bytesOf (numB (s.length : Int))).take j) (by rw [hc]; decide)
    rw [h1, hc]
  · have e2 : (blk s).take j = bytesOf (numB (s.length : Int)) ++ s.take (j - (numB (s.length : Int)).length) := by
      unfold blk; rw [List.take_append, List.take_of_length_le (by rw [bytesOf_len]; omega), bytesOf_len]
    have hc := cntP_back (n := (s.length : Int)) (by omega) (by omega) (s.take (j - (numB (s.length : Int)).length))
    rw [blk_len_eq] at hj
    obtain ⟨h1, _⟩ := blkE_short (s := (blk s).take j) (by rw [e2, hc]) (by rw [e2, hc]; simp [bytesOf_len]; omega)
    exact h1
theorem headE_app (ws r : List UInt8) : headE ws (ws ++ r) = 0 := by
  induction ws with
  | nil => rfl
  | cons w ws ih => rw [List.cons_append, headE, if_pos rfl, ih]
theorem headE_cut {ws r : List UInt8} : ∀ {j : Nat}, j < ws.length → headE ws ((ws ++ r).take j) = 2 := by
  induction ws with
  | nil => intro j h; simp at h
  | cons w ws ih =>
    intro j h
    cases j with
    | zero => rfl
    | succ j => rw [List.cons_append, List.take_succ_cons, headE, if_pos rfl, ih (by simpa using h)]
theorem seal_parts (kind : Int) (s : List UInt8) : sealA kind s = wantP kind ++ (blk s ++ bytesOf (four (crc (sealB kind s)))) := by unfold sealA sealB wantP; simp
theorem four_len (c : Nat) : (bytesOf (four c)).length = 4 := by simp [bytesOf, four]
section
variable {kind : Int} {s : List UInt8} (hk : isKind kind) (hs : s.length ≤ 9223372036854775807)
include hk hs
theorem open_seal : openE kind (sealT kind s) = 0 ∧ openS kind (sealT kind s) = s := by
  have e : sealT kind s = sealA kind s := by unfold sealT; rw [if_pos hk]
  have e2 := seal_parts kind s
  have hd : (sealA kind s).drop 4 = blk s ++ bytesOf (four (crc (sealB kind s))) := by rw [e2]; rfl
  obtain ⟨b1, b2, b3⟩ := blk_back hs (bytesOf (four (crc (sealB kind s))))
  have ho := openR (b := sealA kind s) hk (by rw [e2]; exact headE_app _ _) (by rw [hd]; exact b1)
  rw [hd, b3, four_len, if_neg (by decide), if_neg (by decide), b2, if_neg (fun z => z e)] at ho
  rw [e]
  refine ⟨ho, ?_⟩
  rw [(open_ok ho).1, hd, b2]
theorem open_tail {more : List UInt8} (hm : more ≠ []) : openE kind (sealT kind s ++ more) = 5 := by
  have e : sealT kind s = sealA kind s := by unfold sealT; rw [if_pos hk]
  have e2 := seal_parts kind s
  have hd : (sealA kind s ++ more).drop 4 = blk s ++ (bytesOf (four (crc (sealB kind s))) ++ more) := by rw [e2]; simp [wantP]
  obtain ⟨b1, b2, b3⟩ := blk_back hs (bytesOf (four (crc (sealB kind s))) ++ more)
  have ho := openR (b := sealA kind s ++ more) hk (by rw [e2, List.append_assoc]; exact headE_app _ _) (by rw [hd]; exact b1)
  have hl := List.length_pos_iff.2 hm
  rw [hd, b3, List.length_append, four_len, if_neg (by omega), if_pos (by omega)] at ho
  rw [e]; exact ho
theorem open_cut {cut : Nat} (hc : cut < (sealT kind s).length) : openE kind ((sealT kind s).take cut) = 2 := by
  have e : sealT kind s = sealA kind s := by unfold sealT; rw [if_pos hk]
  rw [e] at hc ⊢
  have e2 := seal_parts kind s
  by_cases h4 : cut < 4
  · exact openH hk (by rw [e2]; exact headE_cut h4) (by decide)
  · have e3 : (sealA kind s).take cut = wantP kind ++ (blk s ++ bytesOf (four (crc (sealB kind s)))).take (cut - 4) := by
      rw [e2, List.take_append, List.take_of_length_le (show (wantP kind).length ≤ cut by simp [wantP]; omega)]; rfl
    have hd : ((sealA kind s).take cut).drop 4 = (blk s ++ bytesOf (four (crc (sealB kind s)))).take (cut - 4) := by rw [e3]; rfl
    have hh : headE (wantP kind) ((sealA kind s).take cut) = 0 := by rw [e3]; exact headE_app _ _
    by_cases hj : cut - 4 < (blk s).length
    · have hb := blk_cut hs hj (bytesOf (four (crc (sealB kind s))))
      have := openB hk hh (by rw [hd, hb]; decide)
      rw [this, hd, hb]
    · have e4 : (blk s ++ bytesOf (four (crc (sealB kind s)))).take (cut - 4) = blk s ++ (bytesOf (four (crc (sealB kind s)))).take (cut - 4 - (blk s).length) := by
        rw [List.take_append, List.take_of_length_le (by omega)]
      obtain ⟨b1, b2, b3⟩ := blk_back hs ((bytesOf (four (crc (sealB kind s)))).take (cut - 4 - (blk s).length))
      have ho := openR hk hh (by rw [hd, e4]; exact b1)
      rw [sealA_len] at hc
      rw [hd, e4, b3, List.length_take, four_len, if_pos (by omega)] at ho
      exact ho
end
theorem open_other {kind : Int} {s : List UInt8} (hk : isKind kind) {other : Int} (ho : other ≠ kind) : openE other (sealT kind s) ≠ 0 ∧ openS other (sealT kind s) = [] := by
  have e : sealT kind s = sealA kind s := by unfold sealT; rw [if_pos hk]
  have key : openE other (sealT kind s) ≠ 0 := by
    by_cases hk2 : isKind other
    · have h3 : headE (wantP other) (sealA kind s) = 3 := by
        rw [seal_parts]
        show headE [103, 108, 115, UInt8.ofNat other.toNat] (103 :: 108 :: 115 :: UInt8.ofNat kind.toNat :: _) = 3
        rw [headE, if_pos rfl, headE, if_pos rfl, headE, if_pos rfl, headE, if_neg]
        intro z
        have z2 := congrArg UInt8.toNat z
        have k1 := hk.1; have k2 := hk.2; have k3 := hk2.1; have k4 := hk2.2
        rw [UInt8.toNat_ofNat', UInt8.toNat_ofNat', Nat.mod_eq_of_lt (by omega), Nat.mod_eq_of_lt (by omega)] at z2
        omega
      rw [e, openH hk2 h3 (by decide)]; decide
    · rw [open1 hk2]; decide
  exact ⟨key, by unfold openS; rw [if_neg key]⟩

/-! ### a turned bit -/
def turnP (s : List UInt8) (bit : Int) : List UInt8 :=
  if bit < 0 ∨ 8 * (s.length : Int) ≤ bit then s else s.set (bit / 8).toNat (UInt8.ofNat (bn s (bit / 8).toNat ^^^ 2 ^ (bit % 8).toNat))
theorem four_inj {c d : Nat} (hc : c < 4294967296) (hd : d < 4294967296) (h : bytesOf (four c) = bytesOf (four d)) : c = d := by
  simp only [bytesOf, four, List.map_cons, List.map_nil, List.cons.injEq, and_true, Int.toNat_natCast] at h
  obtain ⟨h1, h2, h3, h4⟩ := h
  have f : ∀ {a b : Nat}, a < 256 → b < 256 → UInt8.ofNat a = UInt8.ofNat b → a = b := by
    intro a b ha hb e
    have := congrArg UInt8.toNat e
    rwa [UInt8.toNat_ofNat', UInt8.toNat_ofNat', Nat.mod_eq_of_lt ha, Nat.mod_eq_of_lt hb] at this
  have g1 := f (by omega) (by omega) h1
  have g2 := f (by omega) (by omega) h2
  have g3 := f (by omega) (by omega) h3
  have g4 := f (by omega) (by omega) h4
  omega
theorem split_at {b : List UInt8} {p : Nat} (h : p < b.length) (y : UInt8) : b = b.take p ++ b.getD p 0 :: b.drop (p + 1) ∧ b.set p y = b.take p ++ y :: b.drop (p + 1) := by
  refine ⟨?_, ?_⟩
  · have e : b.drop p = b.getD p 0 :: b.drop (p + 1) := by
      rw [List.drop_eq_getElem_cons h, List.getD_eq_getElem?_getD, List.getElem?_eq_getElem h]; rfl
    rw [← e, List.take_append_drop]
  · rw [List.set_eq_take_append_cons_drop, if_pos h]
theorem seal_one {kind : Int} {s t : List UInt8} {p : Nat} {y : UInt8} (hp : p < (sealA kind s).length) (h : (sealA kind s).set p y = sealA kind t) : y = (sealA kind s).getD p 0 := by
  have hl : (sealA kind s).length = (sealA kind t).length := by rw [← h, List.length_set]
  rw [sealA_len, sealA_len] at hl
  have hst := blk_len_inj (s := s) (t := t) (by omega)
  have hB : (sealB kind s).length = (sealB kind t).length := by rw [sealB_len, sealB_len]; omega
  by_cases hlt : p < (sealB kind s).length
  · have e : (sealA kind s).set p y = (sealB kind s).set p y ++ bytesOf (four (crc (sealB kind s))) := by unfold sealA; rw [List.set_append_left _ _ hlt]
    rw [e] at h
    obtain ⟨h1, h2⟩ := List.append_inj (show (sealB kind s).set p y ++ bytesOf (four (crc (sealB kind s))) = sealB kind t ++ bytesOf (four (crc (sealB kind t))) from h) (by rw [List.length_set]; exact hB)
    have hc := four_inj (crc_lt _) (crc_lt _) h2
    obtain ⟨q1, q2⟩ := split_at hlt y
    have hg : (sealA kind s).getD p 0 = (sealB kind s).getD p 0 := by
      unfold sealA
      rw [List.getD_eq_getElem?_getD, List.getElem?_append_left hlt, ← List.getD_eq_getElem?_getD]
    rw [hg]
    have hc2 : crc ((sealB kind s).take p ++ (sealB kind s).getD p 0 :: (sealB kind s).drop (p + 1)) = crc ((sealB kind s).take p ++ y :: (sealB kind s).drop (p + 1)) := by
      rw [← q1, ← q2, h1]; exact hc
    exact (crc_one hc2).symm
  · have e : (sealA kind s).set p y = sealB kind s ++ (bytesOf (four (crc (sealB kind s)))).set (p - (sealB kind s).length) y := by unfold sealA; rw [List.set_append_right _ _ (by omega)]
    rw [e] at h
    obtain ⟨h1, h2⟩ := List.append_inj (show sealB kind s ++ _ = sealB kind t ++ bytesOf (four (crc (sealB kind t))) from h) hB
    rw [← h1] at h2
    have hp2 : p - (sealB kind s).length < (bytesOf (four (crc (sealB kind s)))).length := by rw [sealA_len] at hp; rw [four_len, sealB_len]; rw [sealB_len] at hlt; omega
    have h3 := congrArg (fun l => l.getD (p - (sealB kind s).length) 0) h2
    simp only [List.getD_eq_getElem?_getD] at h3
    rw [List.getElem?_set_self hp2] at h3
    unfold sealA
    rw [List.getD_eq_getElem?_getD, List.getElem?_append_right (by omega), ← h3]; rfl
theorem xor_pow_ne (x k : Nat) : x ^^^ 2 ^ k ≠ x := by
  intro h
  have : (x ^^^ 2 ^ k) ^^^ x = 0 := by rw [h, Nat.xor_self]
  have h2 := congrArg (fun z => z.testBit k) this
  simp only [Nat.testBit_xor, Nat.zero_testBit, Nat.testBit_two_pow_self] at h2
  cases x.testBit k <;> simp_all
theorem turn_bad {kind : Int} {s : List UInt8} {bit : Int} (hk : isKind kind) (h0 : 0 ≤ bit) (h1 : bit < 8 * ((sealT kind s).length : Int)) : openE kind (turnP (sealT kind s) bit) ≠ 0 := by
  have e : sealT kind s = sealA kind s := by unfold sealT; rw [if_pos hk]
  rw [e] at h1 ⊢
  intro ho
  unfold turnP at ho
  rw [if_neg (by omega)] at ho
  have hp : (bit / 8).toNat < (sealA kind s).length := by omega
  generalize hb' : (sealA kind s).set (bit / 8).toNat (UInt8.ofNat (bn (sealA kind s) (bit / 8).toNat ^^^ 2 ^ (bit % 8).toNat)) = b' at ho
  have hsame : sealT kind (blkS (b'.drop 4)) = b' := by
    unfold openE at ho
    rw [if_neg (fun z => z hk)] at ho
    repeat' (split at ho)
    all_goals first | (cases ho; done) | (rename_i h; exact absurd ho h) | skip
    rename_i h
    exact Decidable.not_not.1 h
  have e2 : sealT kind (blkS (b'.drop 4)) = sealA kind (blkS (b'.drop 4)) := by unfold sealT; rw [if_pos hk]
  rw [e2] at hsame
  have hy := seal_one hp (hb'.trans hsame.symm)
  have h2 := congrArg UInt8.toNat hy
  have hlt := bn_lt (sealA kind s) (bit / 8).toNat
  have hx : bn (sealA kind s) (bit / 8).toNat ^^^ 2 ^ (bit % 8).toNat < 256 :=
    Nat.xor_lt_two_pow (n := 8) hlt (Nat.pow_lt_pow_right (by decide) (show (bit % 8).toNat < 8 by omega))
  rw [UInt8.toNat_ofNat', Nat.mod_eq_of_lt hx] at h2
  exact xor_pow_ne _ _ h2
end Go.SealP
