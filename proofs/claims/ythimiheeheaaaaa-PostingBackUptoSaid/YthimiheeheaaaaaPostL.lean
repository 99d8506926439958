/-
  Postings packed and read back. No condition beyond those that each theorem names.
-/
import Derived.Test.YthimiheeheaaaaaPostW
namespace Go.PostP
open Go.Gw Go.NumP Go.LiveP Go.PackP
set_option linter.unusedVariables false
set_option linter.unusedSimpArgs false
theorem incA {l : List Int} (h : ckA (-1) l = 0) : ∀ k, k ≤ l.length → ckA (prevA l k) (l.drop k) = 0 ∧ (k < l.length → prevA l k < l.getD k 0 ∧ l.getD k 0 < 4096)
  | 0, _ => ⟨h, fun hk => by
      rw [show l = l.getD 0 0 :: l.drop 1 from in_drop hk, ckA] at h
      rw [show prevA l 0 = -1 from rfl]
      split at h
      · cases h
      · split at h
        · cases h
        · omega⟩
  | k + 1, hk => by
    have ih := (incA h k (by omega)).1
    rw [in_drop (by omega), ckA] at ih
    have h2 : ckA (prevA l (k + 1)) (l.drop (k + 1)) = 0 := by
      split at ih
      · cases ih
      · split at ih
        · cases ih
        · exact ih
    refine ⟨h2, fun hk2 => ?_⟩
    rw [in_drop hk2, ckA] at h2
    split at h2
    · cases h2
    · split at h2
      · cases h2
      · omega
theorem incP {L : PS} (h : ckP (-1) L = 0) : ∀ k, k ≤ L.length → ckP (prevP L k) (L.drop k) = 0 ∧ (k < L.length → prevP L k < (L.getD k zp).1 ∧ (L.getD k zp).1 < 1048576)
  | 0, _ => ⟨h, fun hk => by
      rw [show L = L.getD 0 zp :: L.drop 1 from ps_drop hk, ckP] at h
      rw [show prevP L 0 = -1 from rfl]
      split at h
      · cases h
      · split at h
        · cases h
        · omega⟩
  | k + 1, hk => by
    have ih := (incP h k (by omega)).1
    rw [ps_drop (by omega), ckP] at ih
    have h2 : ckP (prevP L (k + 1)) (L.drop (k + 1)) = 0 := by
      split at ih
      · cases ih
      · split at ih
        · cases ih
        · split at ih
          · rename_i q; exact absurd ih q
          · exact ih
    refine ⟨h2, fun hk2 => ?_⟩
    rw [ps_drop hk2, ckP] at h2
    split at h2
    · cases h2
    · split at h2
      · cases h2
      · omega
theorem deltas_fit {l : List Int} (h : ∀ k, k < l.length → 0 ≤ lastOf l k ∧ lastOf l k ≤ l.getD k 0 ∧ l.getD k 0 ≤ 4611686018427387904) : Fit (deltas l) := by
  intro x hx
  obtain ⟨j, hj, rfl⟩ := List.getElem_of_mem hx
  rw [deltas_len] at hj
  have e : (deltas l)[j]'(by rw [deltas_len]; exact hj) = (deltas l).getD j 0 := by rw [List.getD_eq_getElem?_getD, List.getElem?_eq_getElem (by rw [deltas_len]; exact hj)]; rfl
  rw [e, deltas_get hj, dAt, IntKind.wrap_i64]
  have := h j hj
  omega
theorem last_bound {l : List Int} (h0 : ∀ k, k < l.length → prevA l k < l.getD k 0) : ∀ k, k < l.length → -1 < l.getD k 0
  | 0, hk => h0 0 hk
  | k + 1, hk => by
    have := h0 (k + 1) hk
    have := last_bound h0 k (by omega)
    rw [show prevA l (k + 1) = l.getD k 0 from rfl] at *
    omega
theorem last_prev {l : List Int} (h0 : ∀ k, k < l.length → prevA l k < l.getD k 0) : ∀ k, k < l.length → 0 ≤ lastOf l k ∧ lastOf l k ≤ l.getD k 0
  | 0, hk => by
    have := h0 0 hk
    rw [show prevA l 0 = -1 from rfl] at this
    rw [show lastOf l 0 = 0 from rfl]
    omega
  | k + 1, hk => by
    have := h0 (k + 1) hk
    have := last_bound h0 k (by omega)
    rw [show prevA l (k + 1) = l.getD k 0 from rfl] at *
    rw [show lastOf l (k + 1) = l.getD k 0 from rfl]
    omega
theorem fitA {l : List Int} (h : ckA (-1) l = 0) : Fit (deltas l) := by
  refine deltas_fit fun k hk => ?_
  have h1 := last_prev (fun k hk => ((incA h k (by omega)).2 hk).1) k hk
  have h2 := ((incA h k (by omega)).2 hk).2
  exact ⟨h1.1, h1.2, by omega⟩
theorem prev_dcs {L : PS} {k : Nat} (hk : k < L.length) : prevA (dcs L) k = prevP L k := by
  cases k with
  | zero => rfl
  | succ k => exact dcs_at (by omega)
theorem fitD {L : PS} (h : ckP (-1) L = 0) : Fit (deltas (dcs L)) := by
  have h0 : ∀ k, k < (dcs L).length → prevA (dcs L) k < (dcs L).getD k 0 := fun k hk => by
    rw [dcs_len] at hk
    rw [prev_dcs hk, dcs_at hk]; exact ((incP h k (by omega)).2 hk).1
  refine deltas_fit fun k hk => ?_
  have h1 := last_prev h0 k hk
  rw [dcs_len] at hk
  have h2 := ((incP h k (by omega)).2 hk).2
  rw [← dcs_at hk] at h2
  exact ⟨h1.1, h1.2, by omega⟩
theorem fitT {L : PS} (h : ckP (-1) L = 0) : Fit (tms L) := by
  intro x hx
  obtain ⟨p, hp, rfl⟩ := List.mem_map.1 hx
  have := ((ckP_ok L (-1) h (by decide) (by decide)).2 p hp).2.2.2.1
  omega
theorem fitC {L : PS} (h : ckP (-1) L = 0) : Fit (pls L) := by
  intro x hx
  obtain ⟨p, hp, hx⟩ := List.mem_flatMap.1 hx
  exact fitA ((ckP_ok L (-1) h (by decide) (by decide)).2 p hp).2.2.1 x hx
theorem fit_pack {l : List Int} (h : Fit l) : packE l = 0 := by unfold packE; rw [negs_fit h]; rfl
theorem fit_hi {l : List Int} (h : Fit l) : ∀ n ∈ l, n ≤ 9223372036854775807 := fun n hn => (h n hn).2
theorem bld_back : ∀ (L acc : PS), (∀ p ∈ L, ckA (-1) p.2 = 0) → bldF acc (dcs L) (tms L) (pls L) = (acc ++ L, [], true)
  | [], acc, _ => by show bldF acc [] [] [] = _; unfold bldF; rw [List.append_nil]
  | p :: r, acc, h => by
    have hp := h p (List.mem_cons_self ..)
    have e0 : pls (p :: r) = deltas p.2 ++ pls r := by simp [pls]
    have ew : ∀ n ∈ p.2, -9223372036854775808 ≤ n ∧ n ≤ 9223372036854775807 := fun n hn => by
      have := (ckA_ok p.2 (-1) hp (by decide) (by decide)).2 n hn; omega
    show bldF acc (p.1 :: dcs r) (((p.2.length : Nat) : Int) :: tms r) (pls (p :: r)) = _
    rw [e0, bldF, if_neg (by rw [List.length_append, deltas_len]; omega), Int.toNat_natCast, List.take_left' (deltas_len _), List.drop_left' (deltas_len _), sums_deltas ew, bld_back r _ fun q hq => h q (List.mem_cons_of_mem _ hq), List.append_assoc]
    rfl
theorem back1 {L : PS} (h : ckP (-1) L = 0) (more : List UInt8) : (more = [] → readX (packP L ++ more) = (L, 0)) ∧ (more ≠ [] → readX (packP L ++ more) = ([], 5)) := by
  have hok := ckP_ok L (-1) h (by decide) (by decide)
  have h46 := fun p hp => (hok.2 p hp).2.2.2.1
  have hl3 := pls_len h46
  have e0 : packP L ++ more = packT (deltas (dcs L)) ++ (packT (tms L) ++ (packT (pls L) ++ more)) := by
    unfold packP packB; rw [if_neg (by rw [h]; decide)]; simp only [List.append_assoc]
  have r1 := pack_read (packT (tms L) ++ (packT (pls L) ++ more)) (fit_pack (fitD h)) (fit_hi (fitD h)) (by rw [deltas_len, dcs_len]; omega)
  have r2 := pack_read (packT (pls L) ++ more) (fit_pack (fitT h)) (fit_hi (fitT h)) (by rw [tms_len]; omega)
  have r3 := pack_read more (fit_pack (fitC h)) (fit_hi (fitC h)) (by omega)
  have eB : sB (packP L ++ more) = packT (tms L) ++ (packT (pls L) ++ more) := by unfold sB; rw [e0, r1]; exact List.drop_left' rfl
  have eC : sC (packP L ++ more) = packT (pls L) ++ more := by unfold sC; rw [eB, r2]; exact List.drop_left' rfl
  have eD : sD (packP L ++ more) = more := by unfold sD; rw [eC, r3]; exact List.drop_left' rfl
  have q1 : readP (packP L ++ more) = (deltas (dcs L), (packT (deltas (dcs L))).length, 0) := by rw [e0]; exact r1
  have q2 : readP (sB (packP L ++ more)) = (tms L, (packT (tms L)).length, 0) := by rw [eB]; exact r2
  have q3 : readP (sC (packP L ++ more)) = (pls L, (packT (pls L)).length, 0) := by rw [eC]; exact r3
  refine ⟨fun hm => ?_, fun hm => ?_⟩
  · rw [rx_f (by rw [q1]) (by rw [q2]) (by rw [q3]) (by rw [eD]; exact hm) (by rw [q1, q2]; show (deltas (dcs L)).length = (tms L).length; rw [deltas_len, dcs_len, tms_len]), q1, q2, q3]
    show finX (bldF [] (sums (deltas (dcs L))) (tms L) (pls L)) = _
    rw [sums_deltas (fun n hn => by
      obtain ⟨p, hp, rfl⟩ := List.mem_map.1 hn
      have := hok.2 p hp; omega), bld_back L [] fun p hp => (hok.2 p hp).2.2.1, List.nil_append, fin_ok (by decide) h]
  · exact rx_d (by rw [q1]) (by rw [q2]) (by rw [q3]) (by rw [eD]; exact hm)
theorem wrap_fwd {a b : Int} (h : -9223372036854775808 ≤ b ∧ b ≤ 9223372036854775807) : IntKind.wrap .i64 (IntKind.wrap .i64 (a + b) - a) = b := by
  simp only [IntKind.wrap_i64]; omega
theorem deltas_sums {l : List Int} (hw : ∀ n ∈ l, -9223372036854775808 ≤ n ∧ n ≤ 9223372036854775807) : deltas (sums l) = l := by
  refine lst_ext (by rw [deltas_len, sums_len]) fun j hj => ?_
  rw [deltas_len, sums_len] at hj
  have e : lastOf (sums l) j = sumW l j := by
    cases j with
    | zero => rfl
    | succ j => exact sums_at (by omega)
  rw [deltas_get (by rw [sums_len]; exact hj), dAt, sums_at hj, e, sumW]
  refine wrap_fwd (hw _ ?_)
  rw [List.getD_eq_getElem?_getD, List.getElem?_eq_getElem hj]; exact List.getElem_mem hj
theorem fit_w {l : List Int} (h : Fit l) : ∀ n ∈ l, -9223372036854775808 ≤ n ∧ n ≤ 9223372036854775807 := fun n hn => by have := h n hn; omega
theorem bld_inv : ∀ (D B C : List Int) (acc M : PS) (R : List Int), D.length = B.length → Fit B → Fit C → bldF acc D B C = (M, R, true) → ∃ L : PS, M = acc ++ L ∧ dcs L = D ∧ tms L = B ∧ pls L ++ R = C
  | [], [], C, acc, M, R, _, _, _, h => by
    unfold bldF at h
    simp only [Prod.mk.injEq, and_true] at h
    obtain ⟨rfl, rfl⟩ := h
    exact ⟨[], (List.append_nil _).symm, rfl, rfl, rfl⟩
  | d :: D, n :: B, C, acc, M, R, hl, hB, hC, h => by
    rw [bldF] at h
    split at h
    · simp at h
    · rename_i hn
      have hn0 := (hB n (List.mem_cons_self ..)).1
      obtain ⟨L, e1, e2, e3, e4⟩ := bld_inv D B (C.drop n.toNat) _ M R (by simpa using hl) (fun x hx => hB x (List.mem_cons_of_mem _ hx)) (hC.drop _) h
      have ht : (C.take n.toNat).length = n.toNat := by rw [List.length_take]; omega
      refine ⟨(d, sums (C.take n.toNat)) :: L, by rw [e1, List.append_assoc]; rfl, by rw [← e2]; rfl, ?_, ?_⟩
      · rw [← e3]
        show (((sums (C.take n.toNat)).length : Nat) : Int) :: tms L = _
        rw [sums_len, ht, Int.toNat_of_nonneg hn0]
      · have : pls ((d, sums (C.take n.toNat)) :: L) = deltas (sums (C.take n.toNat)) ++ pls L := by simp [pls]
        rw [this, deltas_sums (fit_w (hC.take _)), List.append_assoc, e4, List.take_append_drop]
  | [], _ :: _, _, _, _, _, hl, _, _, _ => by simp at hl
  | _ :: _, [], _, _, _, _, hl, _, _, _ => by simp at hl
theorem back2 {s : List UInt8} (h : (readX s).2 = 0) : ckP (-1) (readX s).1 = 0 ∧ packP (readX s).1 = s := by
  have hc : ckP (-1) (readX s).1 = 0 := by rcases readX_cases s with ⟨_, z⟩ | ⟨_, z⟩; exact absurd h z; exact z
  refine ⟨hc, ?_⟩
  by_cases h1 : (readP s).2.2 = 0
  · by_cases h2 : (readP (sB s)).2.2 = 0
    · by_cases h3 : (readP (sC s)).2.2 = 0
      · by_cases h4 : sD s = []
        · by_cases h5 : (readP s).1.length = (readP (sB s)).1.length
          · rw [rx_f h1 h2 h3 h4 h5] at h hc ⊢
            obtain ⟨M, R, b, e⟩ : ∃ M R b, bldF [] (sums (readP s).1) (readP (sB s)).1 (readP (sC s)).1 = (M, R, b) := ⟨_, _, _, rfl⟩
            rw [e] at h hc ⊢
            cases b with
            | false => rw [fin_f] at h; cases h
            | true =>
              by_cases hR : 0 < R.length ∨ ckP (-1) M ≠ 0
              · rw [fin_t hR] at h; cases h
              · have hR1 : ¬ 0 < R.length := fun z => hR (.inl z)
                have hR2 : ckP (-1) M = 0 := Decidable.not_not.1 fun z => hR (.inr z)
                rw [fin_ok hR1 hR2]
                obtain ⟨L, e1, e2, e3, e4⟩ := bld_inv _ _ _ _ _ _ (by rw [sums_len]; exact h5) (readP_fit _) (readP_fit _) e
                rw [List.nil_append] at e1
                subst e1
                obtain rfl : R = [] := List.length_eq_zero_iff.1 (by omega)
                rw [List.append_nil] at e4
                show packP M = s
                unfold packP packB
                rw [if_neg (by rw [hR2]; decide), e2, e3, e4, deltas_sums (fit_w (readP_fit _))]
                have p1 := (read_pack h1).2.2.1
                have p2 := (read_pack h2).2.2.1
                have p3 := (read_pack h3).2.2.1
                rw [p1, p2, p3]
                have f3 : List.take (readP (sC s)).2.1 (sC s) = sC s := by
                  have := List.take_append_drop (readP (sC s)).2.1 (sC s)
                  rw [show List.drop (readP (sC s)).2.1 (sC s) = [] from h4, List.append_nil] at this
                  exact this
                rw [f3, List.append_assoc]
                have f2 : List.take (readP (sB s)).2.1 (sB s) ++ sC s = sB s := List.take_append_drop _ _
                rw [f2]
                exact List.take_append_drop _ _
          · rw [rx_e h1 h2 h3 h4 h5] at h; cases h
        · rw [rx_d h1 h2 h3 h4] at h; cases h
      · rw [rx_c h1 h2 h3] at h; exact absurd h h3
    · rw [rx_b h1 h2] at h; exact absurd h h2
  · rw [rx_a h1] at h; exact absurd h h1
theorem back0 {L : PS} (h : ckP (-1) L = 0) : readX (packP L) = (L, 0) := by
  have := (back1 h []).1 rfl
  rwa [List.append_nil] at this
theorem packP_small {L : PS} (h1 : L.length ≤ 1048576) (h3 : (pls L).length ≤ 1048576) : (packP L).length ≤ 30000000 := by
  unfold packP
  split
  · exact Nat.zero_le _
  · rename_i h
    have h := Decidable.not_not.1 h
    have hok := ckP_ok L (-1) h (by decide) (by decide)
    have a := packT_len (deltas_hi (dcs L))
    have b := packT_len (tms_hi fun p hp => (hok.2 p hp).2.2.2.1)
    have c := packT_len (pls_hi L)
    rw [deltas_len, dcs_len] at a
    rw [tms_len] at b
    unfold packB
    simp only [List.length_append]
    omega
theorem readX_fail {s : List UInt8} (h : (readX s).2 ≠ 0) : (readX s).1 = [] := by
  rcases readX_cases s with ⟨z, _⟩ | ⟨z, _⟩
  · exact z
  · exact absurd z h
end Go.PostP
