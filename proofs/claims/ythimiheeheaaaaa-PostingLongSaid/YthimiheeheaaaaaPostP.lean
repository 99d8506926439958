/-
  Postings, as plain lists: which may be, what they are packed as. No condition beyond those that each theorem names.
-/
import Derived.Test.YthimiheeheaaaaaPackL
import Derived.Test.YthimiheeheaaaaaPost
namespace Go.PostP
open Go.Gw Go.NumP Go.LiveP Go.PackP
set_option linter.unusedVariables false
set_option linter.unusedSimpArgs false
def ckA : Int → List Int → Int
  | _, [] => 0
  | a, n :: r => if n ≤ a then 3 else if n ≥ 4096 then 4 else ckA n r
def ckP : Int → PS → Int
  | _, [] => 0
  | last, p :: r => if p.1 ≥ 1048576 then 4 else if p.1 ≤ last ∨ p.2.length = 0 then 3 else if ckA (-1) p.2 ≠ 0 then ckA (-1) p.2 else ckP p.1 r
theorem ps_drop {L : PS} {k : Nat} (h : k < L.length) : L.drop k = L.getD k zp :: L.drop (k + 1) := by
  rw [List.drop_eq_getElem_cons h, List.getD_eq_getElem?_getD, List.getElem?_eq_getElem h]; rfl
theorem in_drop {l : List Int} {k : Nat} (h : k < l.length) : l.drop k = l.getD k 0 :: l.drop (k + 1) := by
  rw [List.drop_eq_getElem_cons h, List.getD_eq_getElem?_getD, List.getElem?_eq_getElem h]; rfl
section
variable {L : PS} {l : List Int} {k : Nat} {a last : Int}
theorem ckA_end (h : ¬ k < l.length) : ckA a (l.drop k) = 0 := by rw [List.drop_eq_nil_of_le (by omega)]; rfl
theorem ckA_low (h : k < l.length) (h1 : l.getD k 0 ≤ a) : ckA a (l.drop k) = 3 := by rw [in_drop h, ckA, if_pos h1]
theorem ckA_high (h : k < l.length) (h1 : ¬ l.getD k 0 ≤ a) (h2 : l.getD k 0 ≥ 4096) : ckA a (l.drop k) = 4 := by rw [in_drop h, ckA, if_neg h1, if_pos h2]
theorem ckA_go (h : k < l.length) (h1 : ¬ l.getD k 0 ≤ a) (h2 : ¬ l.getD k 0 ≥ 4096) : ckA a (l.drop k) = ckA (l.getD k 0) (l.drop (k + 1)) := by rw [in_drop h, ckA, if_neg h1, if_neg h2]
theorem ckP_end (h : ¬ k < L.length) : ckP last (L.drop k) = 0 := by rw [List.drop_eq_nil_of_le (by omega)]; rfl
theorem ckP_high (h : k < L.length) (h1 : (L.getD k zp).1 ≥ 1048576) : ckP last (L.drop k) = 4 := by rw [ps_drop h, ckP, if_pos h1]
theorem ckP_form (h : k < L.length) (h1 : ¬ (L.getD k zp).1 ≥ 1048576) (h2 : (L.getD k zp).1 ≤ last ∨ (L.getD k zp).2.length = 0) : ckP last (L.drop k) = 3 := by rw [ps_drop h, ckP, if_neg h1, if_pos h2]
theorem ckP_in (h : k < L.length) (h1 : ¬ (L.getD k zp).1 ≥ 1048576) (h2 : ¬ ((L.getD k zp).1 ≤ last ∨ (L.getD k zp).2.length = 0)) : ckP last (L.drop k) = if ckA (-1) (L.getD k zp).2 ≠ 0 then ckA (-1) (L.getD k zp).2 else ckP (L.getD k zp).1 (L.drop (k + 1)) := by rw [ps_drop h, ckP, if_neg h1, if_neg h2]
end
def prevA (l : List Int) : Nat → Int
  | 0 => -1
  | k + 1 => l.getD k 0
def prevP (L : PS) : Nat → Int
  | 0 => -1
  | k + 1 => (L.getD k zp).1
theorem prevA_pos {l : List Int} {k : Nat} (h : 0 < k) : prevA l k = l.getD (k - 1) 0 := by obtain ⟨m, rfl⟩ : ∃ m, k = m + 1 := ⟨k - 1, by omega⟩; rfl
theorem prevP_pos {L : PS} {k : Nat} (h : 0 < k) : prevP L k = (L.getD (k - 1) zp).1 := by obtain ⟨m, rfl⟩ : ∃ m, k = m + 1 := ⟨k - 1, by omega⟩; rfl
/-- alike to a place -/
theorem ps_ext {a b : PS} (h : a.length = b.length) (h2 : ∀ j, j < a.length → a.getD j zp = b.getD j zp) : a = b := by
  apply List.ext_getElem h
  intro j h3 h4
  have := h2 j h3
  rwa [List.getD_eq_getElem?_getD, List.getD_eq_getElem?_getD, List.getElem?_eq_getElem h3, List.getElem?_eq_getElem h4] at this
theorem ps_ne {a b : PS} {j : Nat} (h : ¬ a.getD j zp = b.getD j zp) : ¬ a = b := fun e => h (by rw [e])
theorem pr_ne1 {p q : Int × List Int} (h : ¬ p.1 = q.1) : ¬ p = q := fun e => h (by rw [e])
theorem pr_ne2 {p q : Int × List Int} (h : ¬ p.2 = q.2) : ¬ p = q := fun e => h (by rw [e])
theorem pr_eq {p q : Int × List Int} (h : p.1 = q.1) (h2 : p.2 = q.2) : p = q := Prod.ext h h2
theorem take_ps {L : PS} {k : Nat} (h : k < L.length) : L.take (k + 1) = L.take k ++ [((L.getD k zp).1, (L.getD k zp).2)] := by
  rw [List.take_succ_eq_append_getElem h, List.getD_eq_getElem?_getD, List.getElem?_eq_getElem h]; rfl
end Go.PostP
namespace Go.PostP
open Go.Gw Go.NumP Go.LiveP Go.PackP
def dcs (L : PS) : List Int := L.map (·.1)
def tms (L : PS) : List Int := L.map fun p => ((p.2.length : Nat) : Int)
def pls (L : PS) : List Int := L.flatMap fun p => deltas p.2
def packB (L : PS) : List UInt8 := (packT (deltas (dcs L)) ++ packT (tms L)) ++ packT (pls L)
def packP (L : PS) : List UInt8 := if ckP (-1) L ≠ 0 then [] else packB L
theorem dcs_snoc (L : PS) (p : Int × List Int) : dcs (L ++ [p]) = dcs L ++ [p.1] := by simp [dcs]
theorem tms_snoc (L : PS) (p : Int × List Int) : tms (L ++ [p]) = tms L ++ [((p.2.length : Nat) : Int)] := by simp [tms]
theorem pls_snoc (L : PS) (p : Int × List Int) : pls (L ++ [p]) = pls L ++ deltas p.2 := by simp [pls]
theorem dcs_len (L : PS) : (dcs L).length = L.length := by simp [dcs]
theorem tms_len (L : PS) : (tms L).length = L.length := by simp [tms]
theorem ckA_ok : ∀ (l : List Int) (a : Int), ckA a l = 0 → -1 ≤ a → a ≤ 4095 → ((l.length : Nat) : Int) ≤ 4095 - a ∧ ∀ x ∈ l, a < x ∧ x < 4096
  | [], a, _, _, _ => by simp; omega
  | n :: r, a, h, h1, h2 => by
    rw [ckA] at h
    split at h
    · cases h
    · split at h
      · cases h
      · obtain ⟨i1, i2⟩ := ckA_ok r n h (by omega) (by omega)
        refine ⟨by simp only [List.length_cons]; omega, fun x hx => ?_⟩
        rcases List.mem_cons.1 hx with rfl | hx
        · omega
        · have := i2 x hx; omega
theorem ckP_ok : ∀ (L : PS) (last : Int), ckP last L = 0 → -1 ≤ last → last ≤ 1048575 → ((L.length : Nat) : Int) ≤ 1048575 - last ∧ ∀ p ∈ L, last < p.1 ∧ p.1 < 1048576 ∧ ckA (-1) p.2 = 0 ∧ p.2.length ≤ 4096 ∧ 0 < p.2.length
  | [], a, _, _, _ => by simp; omega
  | p :: r, a, h, h1, h2 => by
    rw [ckP] at h
    split at h
    · cases h
    · split at h
      · cases h
      · split at h
        · rename_i q; exact absurd h q
        · rename_i q0 q1 q2
          have q2 : ckA (-1) p.2 = 0 := Decidable.not_not.1 q2
          obtain ⟨i1, i2⟩ := ckP_ok r p.1 h (by omega) (by omega)
          have := (ckA_ok p.2 (-1) q2 (by omega) (by omega)).1
          refine ⟨by simp only [List.length_cons]; omega, fun x hx => ?_⟩
          rcases List.mem_cons.1 hx with rfl | hx
          · exact ⟨by omega, by omega, q2, by omega, by omega⟩
          · have := i2 x hx; exact ⟨by omega, this.2⟩
theorem wrap_hi (x : Int) : -9223372036854775808 ≤ IntKind.wrap .i64 x ∧ IntKind.wrap .i64 x ≤ 9223372036854775807 := by rw [IntKind.wrap_i64]; omega
theorem deltas_hi (l : List Int) : ∀ n ∈ deltas l, n ≤ 9223372036854775807 := by
  intro n hn
  unfold deltas fillU at hn
  obtain ⟨j, _, rfl⟩ := List.mem_map.1 hn
  split
  · exact (wrap_hi _).2
  · decide
theorem pls_hi (L : PS) : ∀ n ∈ pls L, n ≤ 9223372036854775807 := by
  intro n hn
  obtain ⟨p, _, h⟩ := List.mem_flatMap.1 hn
  exact deltas_hi _ n h
theorem tms_hi {L : PS} (h : ∀ p ∈ L, p.2.length ≤ 4096) : ∀ n ∈ tms L, n ≤ 9223372036854775807 := by
  intro n hn
  obtain ⟨p, hp, rfl⟩ := List.mem_map.1 hn
  have := h p hp
  omega
theorem pls_len {L : PS} (h : ∀ p ∈ L, p.2.length ≤ 4096) : (pls L).length ≤ 4096 * L.length := by
  induction L with
  | nil => simp [pls]
  | cons p r ih =>
    have := ih fun q hq => h q (List.mem_cons_of_mem _ hq)
    have h2 := h p (List.mem_cons_self ..)
    have e : pls (p :: r) = deltas p.2 ++ pls r := by simp [pls]
    rw [e, List.length_append, deltas_len, List.length_cons]; omega
theorem mem_at {L : PS} {k : Nat} (h : k < L.length) : L.getD k zp ∈ L := by
  rw [List.getD_eq_getElem?_getD, List.getElem?_eq_getElem h]; exact List.getElem_mem h
theorem packB_len {L : PS} (h : ckP (-1) L = 0) : (packT (deltas (dcs L))).length ≤ 1000000000 ∧ (packT (tms L)).length ≤ 1000000000 ∧ (packT (pls L)).length ≤ 100000000000 := by
  obtain ⟨h1, h2⟩ := ckP_ok L (-1) h (by omega) (by omega)
  have h3 := pls_len fun p hp => (h2 p hp).2.2.2.1
  have a := packT_len (deltas_hi (dcs L))
  have b := packT_len (tms_hi fun p hp => (h2 p hp).2.2.2.1)
  have c := packT_len (pls_hi L)
  rw [deltas_len, dcs_len] at a
  rw [tms_len] at b
  omega
theorem dcs_at {L : PS} {k : Nat} (h : k < L.length) : (dcs L).getD k 0 = (L.getD k zp).1 := by
  unfold dcs
  rw [List.getD_eq_getElem?_getD, List.getElem?_map, List.getElem?_eq_getElem h, List.getD_eq_getElem?_getD, List.getElem?_eq_getElem h]; rfl
theorem del_take {l : List Int} {k : Nat} (h : k < l.length) : (deltas l).take (k + 1) = (deltas l).take k ++ [dAt l k] := by
  rw [← deltas_get h, take_snoc _ (by rw [deltas_len]; exact h)]
theorem last_pos {l : List Int} {k : Nat} (h : 0 < k) : lastOf l k = l.getD (k - 1) 0 := by obtain ⟨m, rfl⟩ : ∃ m, k = m + 1 := ⟨k - 1, by omega⟩; rfl
theorem take_ps2 {L : PS} {k : Nat} (h : k < L.length) : dcs (L.take (k + 1)) = dcs (L.take k) ++ [(L.getD k zp).1] ∧ tms (L.take (k + 1)) = tms (L.take k) ++ [(((L.getD k zp).2.length : Nat) : Int)] ∧ pls (L.take (k + 1)) = pls (L.take k) ++ deltas (L.getD k zp).2 := by
  rw [take_ps h, dcs_snoc, tms_snoc, pls_snoc]; exact ⟨rfl, rfl, rfl⟩
theorem pls_take {L : PS} (h : ∀ p ∈ L, p.2.length ≤ 4096) (k : Nat) : (pls (L.take k)).length ≤ 4096 * k := by
  have := pls_len (L := L.take k) fun p hp => h p (List.mem_of_mem_take hp)
  have h2 : (L.take k).length ≤ k := by rw [List.length_take]; omega
  omega
end Go.PostP
namespace Go.PostP
open Go.Gw Go.NumP Go.LiveP Go.PackP
/-- postings laid out of the documents, how many places each has, the places -/
def bldF (acc : PS) : List Int → List Int → List Int → PS × List Int × Bool
  | d :: ds, n :: bs, C => if n > ((C.length : Nat) : Int) then (acc, C, false) else bldF (acc ++ [(d, sums (C.take n.toNat))]) ds bs (C.drop n.toNat)
  | _, _, C => (acc, C, true)
def finX (z : PS × List Int × Bool) : PS × Int := if z.2.2 = false then ([], 3) else if 0 < z.2.1.length ∨ ckP (-1) z.1 ≠ 0 then ([], 3) else (z.1, 0)
def sB (s : List UInt8) : List UInt8 := List.drop (readP s).2.1 s
def sC (s : List UInt8) : List UInt8 := List.drop (readP (sB s)).2.1 (sB s)
def sD (s : List UInt8) : List UInt8 := List.drop (readP (sC s)).2.1 (sC s)
def readX (s : List UInt8) : PS × Int :=
  if (readP s).2.2 ≠ 0 then ([], (readP s).2.2)
  else if (readP (sB s)).2.2 ≠ 0 then ([], (readP (sB s)).2.2)
  else if (readP (sC s)).2.2 ≠ 0 then ([], (readP (sC s)).2.2)
  else if sD s ≠ [] then ([], 5)
  else if (readP s).1.length ≠ (readP (sB s)).1.length then ([], 3)
  else finX (bldF [] (sums (readP s).1) (readP (sB s)).1 (readP (sC s)).1)
section
variable {s : List UInt8}
theorem rx_a (h : (readP s).2.2 ≠ 0) : readX s = ([], (readP s).2.2) := by rw [readX, if_pos h]
theorem rx_b (h : (readP s).2.2 = 0) (h2 : (readP (sB s)).2.2 ≠ 0) : readX s = ([], (readP (sB s)).2.2) := by rw [readX, if_neg (fun z => z h), if_pos h2]
theorem rx_c (h : (readP s).2.2 = 0) (h2 : (readP (sB s)).2.2 = 0) (h3 : (readP (sC s)).2.2 ≠ 0) : readX s = ([], (readP (sC s)).2.2) := by rw [readX, if_neg (fun z => z h), if_neg (fun z => z h2), if_pos h3]
theorem rx_d (h : (readP s).2.2 = 0) (h2 : (readP (sB s)).2.2 = 0) (h3 : (readP (sC s)).2.2 = 0) (h4 : sD s ≠ []) : readX s = ([], 5) := by rw [readX, if_neg (fun z => z h), if_neg (fun z => z h2), if_neg (fun z => z h3), if_pos h4]
theorem rx_e (h : (readP s).2.2 = 0) (h2 : (readP (sB s)).2.2 = 0) (h3 : (readP (sC s)).2.2 = 0) (h4 : sD s = []) (h5 : (readP s).1.length ≠ (readP (sB s)).1.length) : readX s = ([], 3) := by rw [readX, if_neg (fun z => z h), if_neg (fun z => z h2), if_neg (fun z => z h3), if_neg (fun z => z h4), if_pos h5]
theorem rx_f (h : (readP s).2.2 = 0) (h2 : (readP (sB s)).2.2 = 0) (h3 : (readP (sC s)).2.2 = 0) (h4 : sD s = []) (h5 : (readP s).1.length = (readP (sB s)).1.length) : readX s = finX (bldF [] (sums (readP s).1) (readP (sB s)).1 (readP (sC s)).1) := by rw [readX, if_neg (fun z => z h), if_neg (fun z => z h2), if_neg (fun z => z h3), if_neg (fun z => z h4), if_neg (fun z => z h5)]
end
theorem readP_le (s : List UInt8) : (readP s).2.1 ≤ s.length := by
  by_cases h : (readP s).2.2 = 0
  · exact (read_pack h).2.1
  · rw [(readP_fail h).2]; exact Nat.zero_le _
theorem readP_fit (s : List UInt8) : Fit (readP s).1 := by
  by_cases h : (readP s).2.2 = 0
  · obtain ⟨h1, _, _, h4, _⟩ := read_pack h
    exact (packE_fit h1 h4).1
  · rw [(readP_fail h).1]; intro x hx; cases hx
section
variable {M : PS} {A B C : List Int} {k o : Nat} {Z : PS × List Int × Bool}
theorem bld_end (h : ¬ k < A.length) : bldF M (A.drop k) (B.drop k) C = (M, C, true) := by
  rw [List.drop_eq_nil_of_le (show A.length ≤ k by omega)]; unfold bldF; rfl
theorem bld_more (h : k < A.length) (h2 : k < B.length) (h3 : B.getD k 0 > ((C.length : Nat) : Int)) : bldF M (A.drop k) (B.drop k) C = (M, C, false) := by
  rw [in_drop h, in_drop h2, bldF, if_pos h3]
theorem bld_go (h : k < A.length) (h2 : k < B.length) (h3 : ¬ B.getD k 0 > ((C.length : Nat) : Int)) : bldF M (A.drop k) (B.drop k) C = bldF (M ++ [(A.getD k 0, sums (C.take (B.getD k 0).toNat))]) (A.drop (k + 1)) (B.drop (k + 1)) (C.drop (B.getD k 0).toNat) := by
  rw [in_drop h, in_drop h2, bldF, if_neg h3]
end
theorem fin_f {M : PS} {C : List Int} : finX (M, C, false) = ([], 3) := rfl
theorem fin_t {M : PS} {C : List Int} (h : 0 < C.length ∨ ckP (-1) M ≠ 0) : finX (M, C, true) = ([], 3) := by unfold finX; rw [if_neg (by simp), if_pos h]
theorem fin_ok {M : PS} {C : List Int} (h : ¬ 0 < C.length) (h2 : ckP (-1) M = 0) : finX (M, C, true) = (M, 0) := by unfold finX; rw [if_neg (by simp), if_neg (by rintro (z | z); exact h z; exact z h2)]
theorem sums_at {l : List Int} {k : Nat} (h : k < l.length) : (sums l).getD k 0 = sumW l (k + 1) := by unfold sums; exact fillU_get h h
end Go.PostP
