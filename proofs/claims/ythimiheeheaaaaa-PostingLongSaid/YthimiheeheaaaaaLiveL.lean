/-
  The laws of sets, in plain Lean: both pack alike, what is packed is read back, what is read is packed as it was. No condition beyond those that each theorem names.
-/
import Derived.Test.YthimiheeheaaaaaLiveR
import Derived.Test.YthimiheeheaaaaaNumL
namespace Go.LiveP
open Go.Gw Go.NumP
set_option linter.unusedVariables false
set_option linter.unusedSimpArgs false
theorem readE_ok {s : List UInt8} (h : readE s = 0) : (cntP s).2.2 = 0 ∧ (0 ≤ (cntP s).1 ∧ (cntP s).1 ≤ 1048576) ∧ ((cntR s).length : Int) = ((cntP s).1 + 7) / 8 ∧ badT (cntR s) (cntP s).1.toNat = false := by
  have hb := cntP_bd s
  unfold readE at h
  split at h
  · omega
  · rename_i h1
    split at h
    · omega
    · rename_i h2
      have h2' := newE_ok (Decidable.not_not.1 h2)
      split at h
      · omega
      · split at h
        · omega
        · split at h
          · omega
          · rename_i h5
            exact ⟨by omega, h2', by omega, by simpa using h5⟩
theorem readG_len {s : List UInt8} (h : readE s = 0) : (readG s).length ≤ 1048576 := by
  have := (readE_ok h).2.1
  unfold readG; rw [maskT_len]; omega
theorem readG_len2 {s : List UInt8} (h : readE s = 0) : ((readG s).length : Int) = (cntP s).1 := by
  have := (readE_ok h).2.1
  unfold readG; rw [maskT_len]; omega
theorem readN {s : List UInt8} (h : readE s = 0) : 0 ≤ (cntP s).1 ∧ (cntP s).1 ≤ 1048576 := (readE_ok h).2.1
theorem bad_lt {t : List UInt8} {n x : Nat} (h : badT t n = false) (hx : x < 8 * t.length) (hb : bitT t x = true) : x < n := by
  rcases Nat.lt_or_ge x n with h1 | h1
  · exact h1
  · rw [bad_of hx hb h1] at h; cases h
theorem qT_mem {t : List UInt8} {m : Nat} {z : Int} : z ∈ qT t m ↔ ∃ x : Nat, z = (x : Int) ∧ x < m ∧ bitT t x = true := by
  unfold qT
  simp only [List.mem_map, List.mem_filter, List.mem_range]
  constructor
  · rintro ⟨x, ⟨h1, h2⟩, rfl⟩; exact ⟨x, rfl, h1, h2⟩
  · rintro ⟨x, rfl, h1, h2⟩; exact ⟨x, ⟨h1, h2⟩, rfl⟩
theorem qT_contains (t : List UInt8) (m x : Nat) : (qT t m).contains ((x : Nat) : Int) = (decide (x < m) && bitT t x) := by
  rw [Bool.eq_iff_iff, List.contains_iff_mem, qT_mem]
  simp only [Bool.and_eq_true, decide_eq_true_eq]
  constructor
  · rintro ⟨y, e, h1, h2⟩
    obtain rfl : x = y := by omega
    exact ⟨h1, h2⟩
  · rintro ⟨h1, h2⟩; exact ⟨x, rfl, h1, h2⟩
theorem wise_of {n : Int} {q : List Int} (h : ∀ z ∈ q, 0 ≤ z ∧ z < n) (hd : q.Nodup) : Wise n q := by
  refine ⟨fun j hj => ?_, fun i j hij hj => ?_⟩
  · rw [List.getD_eq_getElem?_getD, List.getElem?_eq_getElem hj]; exact h _ (List.getElem_mem hj)
  · rw [List.getD_eq_getElem?_getD, List.getElem?_eq_getElem (by omega), List.getD_eq_getElem?_getD, List.getElem?_eq_getElem hj]
    intro e
    simp only [Option.getD_some] at e
    have := (List.getElem_inj (h₀ := by omega) (h₁ := hj) hd).1 e
    omega
theorem qT_nodup (t : List UInt8) (m : Nat) : (qT t m).Nodup := by
  unfold qT
  have h := (List.nodup_range (n := m)).filter (bitT t)
  rw [List.Nodup, List.pairwise_map]
  exact h.imp fun {a b} hab e => hab (by omega)
theorem readQ_wise {s : List UInt8} (h : readE s = 0) : Wise (cntP s).1 (readQ s) := by
  obtain ⟨h1, h2, h3, h4⟩ := readE_ok h
  refine wise_of (fun z hz => ?_) (qT_nodup _ _)
  obtain ⟨x, rfl, hx, hb⟩ := qT_mem.1 hz
  have := bad_lt h4 hx hb
  omega
theorem packI_congr {m : Nat} {f g : Nat → Bool} (h : ∀ x, x < 8 * m → f x = g x) : packI m f = packI m g := by
  unfold packI
  refine List.map_congr_left fun j hj => ?_
  rw [List.mem_range] at hj
  have e : ∀ r, r < 8 → f (8 * j + r) = g (8 * j + r) := fun r hr => h _ (by omega)
  have e0 := e 0 (by omega)
  simp only [Nat.add_zero] at e0
  unfold byteN
  rw [e0, e 1 (by omega), e 2 (by omega), e 3 (by omega), e 4 (by omega), e 5 (by omega), e 6 (by omega), e 7 (by omega)]
theorem byte_bits : ∀ x : Fin 256, b2 (x.val / 1 % 2 == 1) 1 + b2 (x.val / 2 % 2 == 1) 2 + b2 (x.val / 4 % 2 == 1) 4 + b2 (x.val / 8 % 2 == 1) 8 + b2 (x.val / 16 % 2 == 1) 16 + b2 (x.val / 32 % 2 == 1) 32 + b2 (x.val / 64 % 2 == 1) 64 + b2 (x.val / 128 % 2 == 1) 128 = x.val := by decide +kernel
theorem byteN_bitT (t : List UInt8) (j : Nat) : ((byteN (bitT t) j : Nat) : Int) = bl t j := by
  have hb := bl_bd t j
  obtain ⟨x, hx⟩ := Int.eq_ofNat_of_zero_le hb.1
  have e : ∀ r, r < 8 → bitT t (8 * j + r) = (x / 2 ^ r % 2 == 1) := by
    intro r hr
    unfold bitT
    rw [show (8 * j + r) / 8 = j by omega, show (8 * j + r) % 8 = r by omega, hx]
    rw [Bool.eq_iff_iff, beq_iff_eq, beq_iff_eq, ← Int.natCast_ediv]
    omega
  have e0 := e 0 (by omega)
  simp only [Nat.add_zero] at e0
  unfold byteN
  rw [e0, e 1 (by omega), e 2 (by omega), e 3 (by omega), e 4 (by omega), e 5 (by omega), e 6 (by omega), e 7 (by omega), hx]
  have := byte_bits ⟨x, by omega⟩
  simp only at this
  exact congrArg (fun n : Nat => (n : Int)) this
theorem bytes_bits (t : List UInt8) : bytesOf (packI t.length (bitT t)) = t := by
  have h := take_bl (s := t) (n := t.length) (Nat.le_refl _)
  rw [List.take_length] at h
  have e : packI t.length (bitT t) = (List.range t.length).map (bl t) := by
    unfold packI
    exact List.map_congr_left fun j _ => byteN_bitT t j
  rw [e, ← h]
/-- what is read is packed as it was -/
theorem pack_read {s : List UInt8} (h : readE s = 0) : packG (readG s) = s := by
  obtain ⟨h1, h2, h3, h4⟩ := readE_ok h
  obtain ⟨h5, h6⟩ := cntP_take h1
  unfold packG
  rw [readG_len2 h, h5]
  have hl := readG_len2 h
  have hm : ((readG s).length + 7) / 8 = (cntR s).length := by omega
  rw [hm, packI_congr (g := bitT (cntR s)), bytes_bits]
  · exact List.take_append_drop _ s
  · intro x hx
    unfold readG
    rcases Nat.lt_or_ge x (cntP s).1.toNat with q | q
    · rw [maskT_get q]; simp [hx]
    · rw [List.getD_eq_getElem?_getD, List.getElem?_eq_none (by rw [maskT_len]; exact q)]
      cases hb : bitT (cntR s) x with
      | false => rfl
      | true => have := bad_lt h4 hx hb; omega
theorem pack_same {s : List UInt8} (h : readE s = 0) : packG (readG s) = packR (cntP s).1 (readQ s) := by
  obtain ⟨h1, h2, h3, h4⟩ := readE_ok h
  have hl := readG_len2 h
  unfold packG packR
  rw [hl]
  congr 2
  rw [show ((cntP s).1 + 7) / 8 = (((readG s).length + 7) / 8 : Nat) by omega, Int.toNat_natCast]
  refine packI_congr fun x hx => ?_
  unfold readQ
  rw [qT_contains]
  unfold readG
  rcases Nat.lt_or_ge x (cntP s).1.toNat with q | q
  · rw [maskT_get q]
  · rw [List.getD_eq_getElem?_getD, List.getElem?_eq_none (by rw [maskT_len]; exact q)]
    cases hb : (decide (x < 8 * (cntR s).length) && bitT (cntR s) x) with
    | false => rfl
    | true =>
      simp only [Bool.and_eq_true, decide_eq_true_eq] at hb
      have := bad_lt h4 hb.1 hb.2; omega
/-- a packed set is read back -/
theorem packG_cnt {g : List Bool} (hg : g.length ≤ 1048576) (r : List UInt8) : cntP (packG g ++ r) = ((g.length : Int), ((numB (g.length : Int)).length : Int), 0) ∧ cntR (packG g ++ r) = bytesOf (packI ((g.length + 7) / 8) fun i => g.getD i false) ++ r := by
  unfold packG
  rw [List.append_assoc]
  exact ⟨cntP_back (by omega) (by omega) _, cntR_back (by omega) (by omega) _⟩
theorem bitT_pack {m : Nat} {f : Nat → Bool} {x : Nat} (h : x < 8 * m) : bitT (bytesOf (packI m f)) x = f x := by
  unfold bitT
  rw [bl_bytes (packI_bd _ _) (by rw [packI_len]; omega), packI_get _ (by omega)]
  have hb := byteN_bit f (x / 8) (x % 8) (by omega)
  rw [show 8 * (x / 8) + x % 8 = x by omega] at hb
  rw [← hb, ← Int.natCast_ediv, Nat.testBit_eq_decide_div_mod_eq, Bool.eq_iff_iff, beq_iff_eq, decide_eq_true_eq]
  omega
theorem read_back {g : List Bool} (hg : g.length ≤ 1048576) : readE (packG g) = 0 ∧ readG (packG g) = g := by
  obtain ⟨h1, h2⟩ := packG_cnt hg []
  rw [List.append_nil] at h1
  rw [List.append_nil, List.append_nil] at h2
  have hlen : (bytesOf (packI ((g.length + 7) / 8) fun i => g.getD i false)).length = (g.length + 7) / 8 := by rw [bytesOf_len, packI_len]
  have hbad : badT (bytesOf (packI ((g.length + 7) / 8) fun i => g.getD i false)) ((g.length : Int)).toNat = false := by
    refine bad_no fun x hx hb => ?_
    rw [hlen] at hx
    rw [bitT_pack hx] at hb
    rcases Nat.lt_or_ge x g.length with q | q
    · omega
    · rw [List.getD_eq_getElem?_getD, List.getElem?_eq_none q] at hb; cases hb
  constructor
  · unfold readE
    rw [h1, h2]
    simp only
    rw [if_neg (by omega), if_neg (by unfold newE; rw [if_neg (by omega), if_neg (by omega)]; omega), hlen, if_neg (by omega), if_neg (by omega), if_neg (by rw [hbad]; simp)]
  · unfold readG
    rw [h1, h2]
    simp only
    refine List.ext_getElem (by rw [maskT_len]; omega) fun j h3 h4 => ?_
    have e : (maskT (bytesOf (packI ((g.length + 7) / 8) fun i => g.getD i false)) ((g.length : Int)).toNat (8 * (bytesOf (packI ((g.length + 7) / 8) fun i => g.getD i false)).length)).getD j false = g.getD j false := by
      rw [maskT_get (by omega), hlen, bitT_pack (by omega), decide_eq_true (by omega)]; rfl
    rw [List.getD_eq_getElem?_getD, List.getD_eq_getElem?_getD, List.getElem?_eq_getElem h3, List.getElem?_eq_getElem h4] at e
    exact e
/-- with bytes behind it something is left over -/
theorem read_more {g : List Bool} (hg : g.length ≤ 1048576) {r : List UInt8} (hr : r ≠ []) : readE (packG g ++ r) = 5 := by
  obtain ⟨h1, h2⟩ := packG_cnt hg r
  have hl : 0 < r.length := List.length_pos_iff.2 hr
  unfold readE
  rw [h1, h2]
  simp only
  have hlen : (bytesOf (packI ((g.length + 7) / 8) fun i => g.getD i false) ++ r).length = (g.length + 7) / 8 + r.length := by rw [List.length_append, bytesOf_len, packI_len]
  rw [if_neg (by omega), if_neg (by unfold newE; rw [if_neg (by omega), if_neg (by omega)]; omega), hlen, if_neg (by omega), if_pos (by omega)]
/-- killed one behind the other -/
def killsG (g : List Bool) (l : List Int) : List Bool := l.foldl killG g
theorem killsG_snoc (g : List Bool) (l : List Int) (d : Int) : killsG g (l ++ [d]) = killG (killsG g l) d := by simp [killsG]
theorem killsG_len (g : List Bool) (l : List Int) : (killsG g l).length = g.length := by
  unfold killsG
  induction l generalizing g with
  | nil => rfl
  | cons d l ih => rw [List.foldl_cons, ih, killG_len]
theorem killsN_len {n : Int} (h : 0 ≤ n) (l : List Int) : ((killsG (List.replicate n.toNat false) l).length : Int) = n := by
  rw [killsG_len, List.length_replicate]; omega
theorem lives_step {g : List Bool} {j : Nat} (h : lvB g ((j : Int) - 1) = true) : lft (g.take (j + 1 - 1)) = lft (g.take (j - 1)) + 1 := by
  obtain ⟨h0, h1, h2⟩ := lvB_yes h
  obtain ⟨i, rfl⟩ : ∃ i, j = i + 1 := ⟨j - 1, by omega⟩
  have hi : i < g.length := by omega
  rw [show (((i + 1 : Nat) : Int) - 1).toNat = i by omega] at h2
  rw [List.getD_eq_getElem?_getD, List.getElem?_eq_getElem hi, Option.getD_some] at h2
  rw [show i + 1 + 1 - 1 = i + 1 by omega, show i + 1 - 1 = i by omega, List.take_succ_eq_append_getElem hi, h2]
  simp [lft, List.count_append]
theorem lives_skip {g : List Bool} {j : Nat} (h : lvB g ((j : Int) - 1) = false) : lft (g.take (j + 1 - 1)) = lft (g.take (j - 1)) := by
  cases j with
  | zero => rfl
  | succ i =>
    rw [show i + 1 + 1 - 1 = i + 1 by omega, show i + 1 - 1 = i by omega]
    by_cases hi : i < g.length
    · rw [lvB_in (by omega) (by omega), show (((i + 1 : Nat) : Int) - 1).toNat = i by omega] at h
      rw [List.getD_eq_getElem?_getD, List.getElem?_eq_getElem hi, Option.getD_some] at h
      rw [List.take_succ_eq_append_getElem hi]
      have e : g[i] = true := by simpa using h
      rw [e]; simp [lft, List.count_append]
    · rw [List.take_of_length_le (by omega), List.take_of_length_le (by omega)]
theorem lives_end {g : List Bool} {j : Nat} (h : g.length ≤ j - 1) : lft (g.take (j - 1)) = lft g := by rw [List.take_of_length_le h]
theorem lft_take (g : List Bool) (j : Nat) : lft (g.take j) ≤ g.length := by
  have := lft_le (g.take j)
  rw [List.length_take] at this; omega
theorem read_more_no {g : List Bool} (hg : g.length ≤ 1048576) {r : List UInt8} (h : readE (packG g ++ r) = 0) : r = [] := by
  rcases Decidable.em (r = []) with e | e
  · exact e
  · rw [read_more hg e] at h; cases h
theorem packG_room {g : List Bool} (hg : g.length ≤ 1048576) {m : List UInt8} (hm : m.length ≤ 140737488351232) : (packG g).length + m.length ≤ 9223372036854775807 := by
  have := numB_len (g.length : Int)
  unfold packG
  rw [List.length_append, bytesOf_len, bytesOf_len, packI_len]
  omega
end Go.LiveP
namespace Go.LiveP
open Go.Gw Go.NumP
/-- a set and the reference's look alike -/
def AlikeS (n : Int) (g : List Bool) (q : List Int) : Prop := (g.length : Int) = n ∧ Wise n q ∧ (∀ i : Nat, i < g.length → g.getD i false = q.contains ((i : Nat) : Int)) ∧ lft g + q.length = g.length
theorem alike_new {n : Int} (h : 0 ≤ n) : AlikeS n (List.replicate n.toNat false) [] := by
  refine ⟨by rw [List.length_replicate]; omega, ⟨fun j hj => absurd hj (Nat.not_lt_zero _), fun i j _ hj => absurd hj (Nat.not_lt_zero _)⟩, fun i hi => ?_, by rw [lft_new]; simp⟩
  rw [List.length_replicate] at hi
  simp [List.getD_eq_getElem?_getD, hi]
theorem alike_live {n d : Int} {g : List Bool} {q : List Int} (h : AlikeS n g q) : lvB g d = rlvB n q d := by
  obtain ⟨h1, h2, h3, h4⟩ := h
  by_cases hd : 0 ≤ d ∧ d < n
  · rw [lvB_in hd.1 (by omega), rlvB_in hd.1 hd.2, h3 _ (by omega), Int.toNat_of_nonneg hd.1]
  · rw [lvB_out (by omega), rlvB_out hd]
theorem alike_kill {n : Int} {g : List Bool} {q : List Int} (h : AlikeS n g q) (d : Int) : AlikeS n (killG g d) (killR n q d) := by
  have hl := alike_live (d := d) h
  obtain ⟨h1, h2, h3, h4⟩ := h
  cases hb : lvB g d with
  | false => rw [killG_no hb, killR_no (hl ▸ hb)]; exact ⟨h1, h2, h3, h4⟩
  | true =>
    obtain ⟨a, b, c⟩ := lvB_yes hb
    have hr : rlvB n q d = true := hl ▸ hb
    have hs := lft_set (g := g) (j := d.toNat) (by omega) c
    have hnc : q.contains d = false := by
      rw [rlvB_in a (by omega)] at hr; simpa using hr
    rw [killG_yes hb, killR_yes hr]
    refine ⟨by rw [List.length_set]; exact h1, ?_, fun i hi => ?_, by rw [List.length_set, List.length_append, List.length_cons, List.length_nil]; omega⟩
    · refine wise_of (fun z hz => ?_) ?_
      · rcases List.mem_append.1 hz with hz | hz
        · obtain ⟨j, hj, e⟩ := List.getElem_of_mem hz
          have := h2.1 j hj
          rw [List.getD_eq_getElem?_getD, List.getElem?_eq_getElem hj, Option.getD_some, e] at this
          exact this
        · rw [List.mem_singleton] at hz; omega
      · rw [List.nodup_append]
        refine ⟨?_, by simp, ?_⟩
        · rw [List.nodup_iff_pairwise_ne, List.pairwise_iff_getElem]
          intro i j hi hj hij e
          have := h2.2 i j hij hj
          rw [List.getD_eq_getElem?_getD, List.getElem?_eq_getElem hi, List.getD_eq_getElem?_getD, List.getElem?_eq_getElem hj] at this
          exact this (by simpa using e)
        · intro x hx y hy e
          rw [List.mem_singleton] at hy
          subst hy; subst e
          rw [List.contains_iff_mem.2 hx] at hnc
          cases hnc
    · rw [List.length_set] at hi
      rw [List.getD_eq_getElem?_getD, List.getElem?_set]
      by_cases e : d.toNat = i
      · subst e
        rw [if_pos rfl, if_pos hi]
        symm
        rw [Option.getD_some, List.contains_iff_mem, Int.toNat_of_nonneg a]
        exact List.mem_append_right _ (List.mem_singleton.2 rfl)
      · rw [if_neg e, ← List.getD_eq_getElem?_getD, h3 i hi]
        rw [Bool.eq_iff_iff, List.contains_iff_mem, List.contains_iff_mem, List.mem_append, List.mem_singleton]
        constructor
        · exact .inl
        · rintro (z | z)
          · exact z
          · omega
theorem alike_pack {n : Int} {g : List Bool} {q : List Int} (h : AlikeS n g q) : packG g = packR n q := by
  obtain ⟨h1, h2, h3, h4⟩ := h
  unfold packG packR
  rw [h1]
  congr 2
  rw [show (n + 7) / 8 = ((g.length + 7) / 8 : Nat) by omega, Int.toNat_natCast]
  refine packI_congr fun x hx => ?_
  rcases Nat.lt_or_ge x g.length with hq | hq
  · exact h3 x hq
  · rw [List.getD_eq_getElem?_getD, List.getElem?_eq_none hq, Option.getD_none]
    symm
    rw [Bool.eq_false_iff]
    intro hc
    obtain ⟨j, hj, e⟩ := List.getElem_of_mem (List.contains_iff_mem.1 hc)
    have := h2.1 j hj
    rw [List.getD_eq_getElem?_getD, List.getElem?_eq_getElem hj, Option.getD_some, e] at this
    omega
def stF (x : Int × Int) : List Value := [.int .i64 x.1, .int .i64 x.2]
theorem stF_len (x : Int × Int) : (stF x).length = 2 := rfl
theorem stF_one (x : Int × Int) : ∀ u ∈ stF x, u.oneCell' = true := by
  intro u hu; simp [stF] at hu; rcases hu with rfl | rfl <;> rfl
end Go.LiveP
