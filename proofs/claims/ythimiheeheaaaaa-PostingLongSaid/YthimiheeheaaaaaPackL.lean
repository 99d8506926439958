/-
  Numbers in blocks: what is packed is read back, what is read is packed. No condition beyond those that each theorem names.
-/
import Derived.Test.YthimiheeheaaaaaPackP
import Derived.Test.YthimiheeheaaaaaLiveL
import Derived.Test.YthimiheeheaaaaaNumL
namespace Go.PackP
open Go.Gw Go.NumP Go.LiveP
set_option linter.unusedVariables false
set_option linter.unusedSimpArgs false
theorem numV_of {t : List UInt8} {W i x : Nat} (hx : x < 2 ^ W) (h : ∀ k, k < W → bitT t (i * W + k) = x.testBit k) : numV t W i W = x := by
  have key : ∀ k, k ≤ W → numV t W i k = x % 2 ^ k := by
    intro k
    induction k with
    | zero => intro _; simp [numV, Nat.mod_one]
    | succ k ih =>
      intro hk
      rw [numV, ih (by omega), h k (by omega)]
      have : x % 2 ^ (k + 1) = x % 2 ^ k + 2 ^ k * (x / 2 ^ k % 2) := Nat.mod_pow_succ
      rw [this, Nat.testBit_eq_decide_div_mod_eq]
      have h2 : x / 2 ^ k % 2 < 2 := Nat.mod_lt _ (by decide)
      rcases Decidable.em (x / 2 ^ k % 2 = 1) with e | e
      · rw [e]; simp [b2]
      · have e0 : x / 2 ^ k % 2 = 0 := by omega
        rw [e0]; simp [b2]
  rw [key W (Nat.le_refl _), Nat.mod_eq_of_lt hx]
def blkT (c : List Int) : List UInt8 := bytesOf (packI (blkM c) (strm c (wid c) (wid c * c.length)))
theorem blkT_len (c : List Int) : (blkT c).length = blkM c := by unfold blkT; rw [bytesOf_lenP, packI_len]
theorem numsT_get {t : List UInt8} {W n j : Nat} (h : j < n) : (numsT t W n).getD j 0 = ((numV t W j W : Nat) : Int) := by
  simp [numsT, List.getD_eq_getElem?_getD, h]
theorem numsT_blk {c : List Int} (h : Fit c) : numsT (blkT c) (wid c) c.length = c := by
  refine lst_ext (numsT_len _ _ _) fun j hj => ?_
  rw [numsT_len] at hj
  rw [numsT_get hj]
  have hx := h.at j
  have e : numV (blkT c) (wid c) j (wid c) = (c.getD j 0).toNat := by
    refine numV_of (wid_at h hj) fun k hk => ?_
    have hat := at_le (W := wid c) hj
    unfold blkT
    rw [bitT_pack (by unfold blkM; omega)]
    unfold strm
    rw [decide_eq_true (by omega), nb_at hk]; rfl
  rw [e]; omega
theorem blkB_cons (c : List Int) : ∃ b : UInt8, blkB c = b :: blkT c ∧ (Fit c → ((b.toNat : Nat) : Int) = ((wid c : Nat) : Int)) := by
  refine ⟨UInt8.ofNat (Int.toNat ((wid c : Nat) : Int)), rfl, fun h => ?_⟩
  have := wid63 h
  simp; omega
theorem drop_take_at (s : List UInt8) (a k : Nat) : (s.take (a + k)).drop a = (s.drop a).take k := by
  rw [List.drop_take]; congr 1; omega
theorem rdF_step {S R : List UInt8} {n at_ : Nat} {acc c : List Int} (hf : Fit c) (hS : S.drop at_ = blkB c ++ R) (ha : acc.length < n) (hc : c.length = min (n - acc.length) 128) :
    rdF S n acc at_ = rdF S n (acc ++ c) (at_ + (blkB c).length) := by
  obtain ⟨b, hb, hw⟩ := blkB_cons c
  have hw := hw hf
  have hlen : (blkB c).length = blkM c + 1 := blkB_len c
  have hSl : S.length - at_ = (blkB c).length + R.length := by rw [← List.length_drop, hS, List.length_append]
  have hbl : bl S at_ = ((wid c : Nat) : Int) := by
    rw [← hw]
    have : S.getD at_ 0 = b := by
      have h2 : (S.drop at_).getD 0 0 = b := by rw [hS, hb]; rfl
      rwa [List.getD_eq_getElem?_getD, List.getElem?_drop, Nat.add_zero, ← List.getD_eq_getElem?_getD] at h2
    show (((S.getD at_ 0).toNat : Nat) : Int) = _
    rw [this]
  have hq : (S.take (at_ + (blkM c + 1))).drop at_ = blkB c := by
    rw [drop_take_at, hS, ← hlen, List.take_left]
  have hp : (S.take (at_ + (blkM c + 1))).drop (at_ + 1) = blkT c := by
    rw [← List.drop_drop, hq, hb]; rfl
  have hw63 := wid63 hf
  have e := rdF_go (s := S) (n := n) (acc := acc) (at_ := at_) (m := c.length) (W := wid c) (L := blkM c) (p := blkT c) (q := blkB c) ha (by omega) (by omega) hc (by rw [hbl]; rfl) rfl (by omega) hp.symm hq.symm (by rw [numsT_blk hf])
  rw [e, numsT_blk hf, hlen]
theorem pre_nil : pre [] (cnt []) = [] := rfl
theorem pre_cons {l : List Int} (h : 0 < l.length) : pre l (cnt l) = blkB (l.take 128) ++ pre (l.drop 128) (cnt (l.drop 128)) := by
  have e : cnt l = cnt (l.drop 128) + 1 := by unfold cnt; rw [List.length_drop]; omega
  rw [e]
  unfold pre
  rw [List.range_succ_eq_map, List.flatMap_cons, List.flatMap_map]
  have e0 : chunk l 0 = l.take 128 := rfl
  have e1 : (fun a => blkB (chunk l (Nat.succ a))) = fun q => blkB (chunk (l.drop 128) q) := by
    funext q
    unfold chunk
    rw [List.drop_drop, show 128 * Nat.succ q = 128 + 128 * q by omega]
  rw [e0, e1]
theorem rdF_pack {S R : List UInt8} {n : Nat} : ∀ (N : Nat) (l acc : List Int) (at_ : Nat), l.length ≤ N → Fit l → acc.length + l.length = n → S.drop at_ = pre l (cnt l) ++ R →
    rdF S n acc at_ = (acc ++ l, at_ + (pre l (cnt l)).length, 0)
  | 0, l, acc, at_, hN, hf, hn, hS => by
    obtain rfl : l = [] := List.length_eq_zero_iff.1 (by omega)
    rw [rdF_end (by simp at hn; omega)]; simp [pre_nil]
  | N + 1, l, acc, at_, hN, hf, hn, hS => by
    rcases Nat.eq_zero_or_pos l.length with h0 | h0
    · obtain rfl : l = [] := List.length_eq_zero_iff.1 h0
      rw [rdF_end (by simp at hn; omega)]; simp [pre_nil]
    · rw [pre_cons h0, List.append_assoc] at hS
      have hc : (l.take 128).length = min (n - acc.length) 128 := by rw [List.length_take]; omega
      rw [rdF_step (hf.take 128) hS (by omega) hc]
      have hS2 : S.drop (at_ + (blkB (l.take 128)).length) = pre (l.drop 128) (cnt (l.drop 128)) ++ R := by
        rw [← List.drop_drop, hS, List.drop_left]
      rw [rdF_pack N (l.drop 128) (acc ++ l.take 128) _ (by rw [List.length_drop]; omega) (hf.drop 128) (by rw [List.length_append, List.length_take, List.length_drop]; omega) hS2]
      rw [List.append_assoc, List.take_append_drop, pre_cons h0, List.length_append, Nat.add_assoc]
theorem seg_join (s : List UInt8) {a b z : Nat} (h : a ≤ b) (h2 : b ≤ z) : (s.take b).drop a ++ (s.take z).drop b = (s.take z).drop a := by
  have e1 : (s.take b).drop a = ((s.take z).drop a).take (b - a) := by
    rw [List.drop_take, List.drop_take, List.take_take]; congr 1; omega
  have e2 : (s.take z).drop b = ((s.take z).drop a).drop (b - a) := by
    rw [List.drop_drop]; congr 1; omega
  rw [e1, e2, List.take_append_drop]
theorem rdF_back {s : List UInt8} {n : Nat} : ∀ (N : Nat) (acc : List Int) (at_ : Nat) (r : List Int) (z : Nat), n - acc.length ≤ N → acc.length ≤ n → at_ ≤ s.length → rdF s n acc at_ = (r, z, 0) →
    ∃ m, r = acc ++ m ∧ acc.length + m.length = n ∧ Fit m ∧ at_ ≤ z ∧ z ≤ s.length ∧ pre m (cnt m) = (s.take z).drop at_ := by
  intro N
  induction N with
  | zero =>
    intro acc at_ r z hN ha hs h
    rw [rdF_end (by omega)] at h
    simp only [Prod.mk.injEq] at h
    obtain ⟨rfl, rfl, _⟩ := h
    exact ⟨[], by simp, by simp; omega, (by intro x hx; cases hx), Nat.le_refl _, hs, by rw [pre_nil, List.drop_eq_nil_of_le (by rw [List.length_take]; omega)]⟩
  | succ N ih =>
    intro acc at_ r z hN ha hs h
    by_cases h0 : acc.length < n
    · by_cases h1 : s.length ≤ at_
      · rw [rdF_short h0 h1] at h; simp at h
      by_cases h2 : 63 < bl s at_
      · rw [rdF_wide h0 h1 h2] at h; simp at h
      have hb := bl_bd s at_
      by_cases h3 : s.length - at_ < longOf (bl s at_).toNat (min (n - acc.length) 128) + 1
      · rw [rdF_cut h0 h1 h2 rfl rfl rfl h3] at h; simp at h
      by_cases h4 : blkB (numsT ((s.take (at_ + (longOf (bl s at_).toNat (min (n - acc.length) 128) + 1))).drop (at_ + 1)) (bl s at_).toNat (min (n - acc.length) 128)) = (s.take (at_ + (longOf (bl s at_).toNat (min (n - acc.length) 128) + 1))).drop at_
      · rw [rdF_go h0 h1 h2 rfl rfl rfl h3 rfl rfl h4] at h
        generalize hc : numsT ((s.take (at_ + (longOf (bl s at_).toNat (min (n - acc.length) 128) + 1))).drop (at_ + 1)) (bl s at_).toNat (min (n - acc.length) 128) = c at *
        generalize hL : longOf (bl s at_).toNat (min (n - acc.length) 128) = L at *
        have hcl : c.length = min (n - acc.length) 128 := by rw [← hc, numsT_len]
        have hcf : Fit c := by rw [← hc]; exact numsT_fit (by omega)
        obtain ⟨m, e1, e2, e3, e4, e5, e6⟩ := ih (acc ++ c) _ r z (by rw [List.length_append]; omega) (by rw [List.length_append]; omega) (by omega) h
        rw [List.length_append] at e2
        have ht : (c ++ m).take 128 = c ∧ (c ++ m).drop 128 = m := by
          rcases Nat.lt_or_ge c.length 128 with q | q
          · obtain rfl : m = [] := List.length_eq_zero_iff.1 (by omega)
            rw [List.append_nil, List.take_of_length_le (by omega), List.drop_eq_nil_of_le (by omega)]; exact ⟨rfl, rfl⟩
          · have : c.length = 128 := by omega
            rw [← this, List.take_left, List.drop_left]; exact ⟨rfl, rfl⟩
        refine ⟨c ++ m, by rw [e1, List.append_assoc], by rw [List.length_append]; omega, ?_, by omega, e5, ?_⟩
        · intro x hx
          rcases List.mem_append.1 hx with hx | hx
          · exact hcf x hx
          · exact e3 x hx
        · rw [pre_cons (by rw [List.length_append]; omega), ht.1, ht.2, e6, h4, seg_join s (by omega) e4]
      · rw [rdF_form h0 h1 h2 rfl rfl rfl h3 rfl rfl h4] at h; simp at h
    · rw [rdF_end h0] at h
      simp only [Prod.mk.injEq] at h
      obtain ⟨rfl, rfl, _⟩ := h
      exact ⟨[], by simp, by simp; omega, (by intro x hx; cases hx), Nat.le_refl _, hs, by rw [pre_nil, List.drop_eq_nil_of_le (by rw [List.length_take]; omega)]⟩
theorem rdF_fail {s : List UInt8} {n : Nat} : ∀ (N : Nat) (acc : List Int) (at_ : Nat), n - acc.length ≤ N → (rdF s n acc at_).2.2 ≠ 0 → (rdF s n acc at_).1 = [] ∧ (rdF s n acc at_).2.1 = 0 := by
  intro N
  induction N with
  | zero => intro acc at_ hN h; rw [rdF_end (by omega)] at h; exact absurd rfl h
  | succ N ih =>
    intro acc at_ hN h
    by_cases h0 : acc.length < n
    · by_cases h1 : s.length ≤ at_
      · rw [rdF_short h0 h1]; exact ⟨rfl, rfl⟩
      by_cases h2 : 63 < bl s at_
      · rw [rdF_wide h0 h1 h2]; exact ⟨rfl, rfl⟩
      by_cases h3 : s.length - at_ < longOf (bl s at_).toNat (min (n - acc.length) 128) + 1
      · rw [rdF_cut h0 h1 h2 rfl rfl rfl h3]; exact ⟨rfl, rfl⟩
      by_cases h4 : blkB (numsT ((s.take (at_ + (longOf (bl s at_).toNat (min (n - acc.length) 128) + 1))).drop (at_ + 1)) (bl s at_).toNat (min (n - acc.length) 128)) = (s.take (at_ + (longOf (bl s at_).toNat (min (n - acc.length) 128) + 1))).drop at_
      · rw [rdF_go h0 h1 h2 rfl rfl rfl h3 rfl rfl h4] at h ⊢
        exact ih _ _ (by rw [List.length_append, numsT_len]; omega) h
      · rw [rdF_form h0 h1 h2 rfl rfl rfl h3 rfl rfl h4]; exact ⟨rfl, rfl⟩
    · rw [rdF_end h0] at h; exact absurd rfl h
theorem readP_fail {s : List UInt8} (h : (readP s).2.2 ≠ 0) : (readP s).1 = [] ∧ (readP s).2.1 = 0 := by
  by_cases h0 : (cntP s).2.2 = 0
  · rw [readP_ok h0] at h ⊢; exact rdF_fail _ _ _ (Nat.le_refl _) h
  · rw [readP_err h0]; exact ⟨rfl, rfl⟩
theorem packE_fit {l : List Int} (h : packE l = 0) (hw : ∀ n ∈ l, n ≤ 9223372036854775807) : Fit l ∧ packT l = bytesOf (numB (l.length : Int)) ++ pre l (cnt l) := by
  unfold packE at h; unfold packT
  split at h
  · cases h
  · rename_i hn
    rw [if_neg hn]
    exact ⟨fit_of (by simpa using hn) hw, rfl⟩
theorem pack_read {l : List Int} (s : List UInt8) (h : packE l = 0) (hw : ∀ n ∈ l, n ≤ 9223372036854775807) (hl : l.length ≤ 140737488355328) : readP (packT l ++ s) = (l, (packT l).length, 0) := by
  obtain ⟨hf, e⟩ := packE_fit h hw
  rw [e]
  have hc := cntP_back (n := (l.length : Int)) (by omega) (by omega) (pre l (cnt l) ++ s)
  rw [← List.append_assoc] at hc
  rw [readP_ok (by rw [hc])]
  rw [hc]
  have := rdF_pack (S := bytesOf (numB (l.length : Int)) ++ pre l (cnt l) ++ s) (R := s) (n := l.length) l.length l [] (numB (l.length : Int)).length (Nat.le_refl _) hf (by simp)
    (by rw [List.append_assoc, ← bytesOf_lenP (numB (l.length : Int)), List.drop_left])
  simp only [Int.toNat_natCast]
  rw [this, List.nil_append, List.length_append, bytesOf_lenP]
theorem read_pack {s : List UInt8} (h : (readP s).2.2 = 0) : packE (readP s).1 = 0 ∧ (readP s).2.1 ≤ s.length ∧ packT (readP s).1 = s.take (readP s).2.1 ∧ (∀ n ∈ (readP s).1, n ≤ 9223372036854775807) ∧ ((readP s).1.length : Int) = (cntP s).1 := by
  by_cases h0 : (cntP s).2.2 = 0
  · rw [readP_ok h0] at h ⊢
    have hb := cntP_bd s
    obtain ⟨r, z, e, hr⟩ : ∃ r z e, rdF s (cntP s).1.toNat [] (cntP s).2.1.toNat = (r, z, e) := ⟨_, _, _, rfl⟩
    rw [hr] at h ⊢
    obtain rfl : e = 0 := h
    obtain ⟨m, e1, e2, e3, e4, e5, e6⟩ := rdF_back _ [] _ r z (Nat.le_refl _) (Nat.zero_le _) (by omega) hr
    rw [List.nil_append] at e1
    subst e1
    have hn := negs_fit e3
    have hz : packE r = 0 := by unfold packE; rw [hn]; rfl
    obtain ⟨t1, t2⟩ := cntP_take h0
    simp only [List.length_nil, Nat.zero_add] at e2
    refine ⟨hz, e5, ?_, fun n hn => (e3 n hn).2, by show ((r.length : Nat) : Int) = _; omega⟩
    show packT r = s.take z
    have ep : packT r = bytesOf (numB (r.length : Int)) ++ pre r (cnt r) := by unfold packT; rw [hn]; rfl
    rw [ep, e6, show (r.length : Int) = (cntP s).1 by omega, t1]
    have := seg_join s (a := 0) (b := (cntP s).2.1.toNat) (z := z) (Nat.zero_le _) e4
    simpa using this
  · rw [readP_err h0] at h; exact absurd h h0
theorem wake_read : readP [130, 3, 53] = ([5, 6], 3, 0) := by
  rw [readP_ok (by decide +kernel)]
  rw [rdF_go (m := 2) (W := 3) (L := 1) (p := [53]) (q := [3, 53]) (by decide +kernel) (by decide +kernel) (by decide +kernel) (by decide +kernel) (by decide +kernel) (by decide +kernel) (by decide +kernel) (by decide +kernel) (by decide +kernel) (by decide +kernel)]
  rw [rdF_end (by decide +kernel)]
  decide +kernel
theorem numB_small : ∀ n : Fin 129, (numB ((n.val : Nat) : Int)).length = if n.val < 112 then 1 else 2 := by decide +kernel
theorem small_len {l : List Int} {w : Nat} (hl : l.length ≤ 128) (hm : ∀ x ∈ l, 0 ≤ x ∧ x < ((2 ^ w : Nat) : Int)) (hw : w ≤ 62) :
    packE l = 0 ∧ (l.length = 0 → (packT l).length = 1) ∧ (0 < l.length → (packT l).length ≤ (if l.length < 112 then 1 else 2) + 1 + (w * l.length + 7) / 8) := by
  have h2 : 2 ^ w ≤ 2 ^ 62 := Nat.pow_le_pow_right (by decide) hw
  have hf : Fit l := fun x hx => by have := hm x hx; omega
  have hn := negs_fit hf
  have ep : packT l = bytesOf (numB (l.length : Int)) ++ pre l (cnt l) := by unfold packT; rw [hn]; rfl
  have hb := numB_small ⟨l.length, by omega⟩
  simp only at hb
  refine ⟨by unfold packE; rw [hn]; rfl, fun h0 => ?_, fun h0 => ?_⟩
  · obtain rfl : l = [] := List.length_eq_zero_iff.1 h0
    decide +kernel
  · rw [ep, List.length_append, bytesOf_lenP, hb]
    have e : pre l (cnt l) = blkB l := by
      rw [pre_cons h0, List.take_of_length_le hl, List.drop_eq_nil_of_le hl, pre_nil, List.append_nil]
    rw [e, blkB_len]
    have hwid : wid l ≤ w := wid_le fun x hx => by have := hm x hx; omega
    have : wid l * l.length ≤ w * l.length := Nat.mul_le_mul_right _ hwid
    unfold blkM
    omega
theorem deltas_diff {l : List Int} {k : Nat} (hk : k < l.length) (hw : ∀ n ∈ l, -9223372036854775808 ≤ n ∧ n ≤ 9223372036854775807) {a : Int} (ha : a = lastOf l k) :
    (0 ≤ a → a ≤ l.getD k 0 → (deltas l).getD k 0 = l.getD k 0 - a) ∧ (l.getD k 0 = a → (deltas l).getD k 0 = 0) := by
  rw [deltas_get hk, dAt, ← ha]
  have hx : -9223372036854775808 ≤ l.getD k 0 ∧ l.getD k 0 ≤ 9223372036854775807 := by
    rw [List.getD_eq_getElem?_getD, List.getElem?_eq_getElem hk]; exact hw _ (List.getElem_mem _)
  exact ⟨fun h1 h2 => IntWalk.i64_in _ (by omega), fun h1 => by rw [h1, Int.sub_self]; rfl⟩
end Go.PackP
namespace Go.PackP
open Go.Gw Go.NumP Go.LiveP
theorem pre_ge (l : List Int) : ∀ j, j ≤ (pre l j).length
  | 0 => Nat.zero_le _
  | j + 1 => by have := pre_ge l j; rw [pre_succ, List.length_append, blkB_len]; omega
theorem read_len (s : List UInt8) : (readP s).1.length ≤ 128 * s.length := by
  by_cases h : (readP s).2.2 = 0
  · obtain ⟨h1, h2, h3, h4, _⟩ := read_pack h
    have e := congrArg List.length h3
    rw [(packE_fit h1 h4).2, List.length_append, List.length_take] at e
    have := pre_ge (readP s).1 (cnt (readP s).1)
    have hc : (readP s).1.length ≤ 128 * cnt (readP s).1 := by unfold cnt; omega
    omega
  · rw [(readP_fail h).1]; simp
theorem packT_len {l : List Int} (hw : ∀ n ∈ l, n ≤ 9223372036854775807) : (packT l).length ≤ 9 + 1009 * (l.length / 128 + 1) := by
  by_cases h : packE l = 0
  · obtain ⟨hf, e⟩ := packE_fit h hw
    rw [e, List.length_append, bytesOf_lenP]
    have h1 := numB_len (l.length : Int)
    have h2 := pre_len hf (cnt l)
    have h3 : cnt l ≤ l.length / 128 + 1 := by unfold cnt; omega
    omega
  · unfold packE at h; unfold packT
    split at h
    · rename_i hn; rw [if_pos hn]; simp
    · exact absurd rfl h
theorem shl_one {k : Nat} (hk : k ≤ 62) : IntKind.wrap .i64 (1 * 2 ^ (min (Int.toNat ((k : Nat) : Int)) (IntKind.bits .i64))) = ((2 ^ k : Nat) : Int) := by
  have h2 : 2 ^ k ≤ 2 ^ 62 := Nat.pow_le_pow_right (by decide) hk
  rw [show min (Int.toNat ((k : Nat) : Int)) (IntKind.bits .i64) = k by simp [IntKind.bits]; omega]
  rw [Int.one_mul, show (2 : Int) ^ k = ((2 ^ k : Nat) : Int) by simp]
  generalize 2 ^ k = z at *
  exact IntWalk.i64_in _ (by omega)
theorem list_at {l : List Int} (hw : ∀ n ∈ l, -9223372036854775808 ≤ n ∧ n ≤ 9223372036854775807) (j : Nat) : -9223372036854775808 ≤ l.getD j 0 ∧ l.getD j 0 ≤ 9223372036854775807 := by
  rw [List.getD_eq_getElem?_getD]
  rcases Nat.lt_or_ge j l.length with h1 | h1
  · rw [List.getElem?_eq_getElem h1]; exact hw _ (List.getElem_mem h1)
  · rw [List.getElem?_eq_none h1]; decide
end Go.PackP
