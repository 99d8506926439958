/-
  Items as bytes, read back; rows, item for item. No condition beyond those that each theorem names.
-/
import Derived.Test.YtmjkbmlcclmdkaaDoorDoorP
import Derived.Test.YtmjkbmlcclmdkaaDoorSealL
namespace Go.DoorP
open Go.Gw Go.NumP Go.SealP Go.TupP
set_option linter.unusedVariables false
set_option linter.unusedSimpArgs false
theorem drop_cons {s : List UInt8} {k : Nat} (h : k < s.length) : s.drop k = s.getD k 0 :: s.drop (k + 1) := by
  rw [List.drop_eq_getElem_cons h, List.getD_eq_getElem?_getD, List.getElem?_eq_getElem h]; rfl
theorem u8_at {s : List UInt8} {k : Nat} {c : UInt8} (h : bl s k = (c.toNat : Int)) : s.getD k 0 = c := by
  unfold bl at h
  exact UInt8.toNat.inj (by omega)
/-- what was read, written again -/
theorem tx_what (s : List UInt8) : ∀ (m k : Nat) (acc x : List UInt8) (n : Nat), s.length - k ≤ m → txF s k acc = (x, n, 0) → ∃ y, x = acc ++ y ∧ s.drop k = (enc y ++ [0, 1]) ++ s.drop n := by
  intro m
  induction m with
  | zero => intro k acc x n h he; rw [tx_end (by omega)] at he; simp at he
  | succ m ih =>
    intro k acc x n h he
    by_cases h0 : k < s.length
    · by_cases h1 : bl s k = 0
      · by_cases h2 : k + 1 = s.length
        · rw [tx_short h0 h1 h2] at he; simp at he
        · by_cases h3 : bl s (k + 1) = 1
          · rw [tx_done h0 h1 h2 h3] at he
            simp only [Prod.mk.injEq] at he
            refine ⟨[], by rw [← he.1, List.append_nil], ?_⟩
            rw [drop_cons h0, drop_cons (show k + 1 < s.length by omega), u8_at (c := 0) h1, u8_at (c := 1) h3, ← he.2.1]; rfl
          · by_cases h4 : bl s (k + 1) = 255
            · rw [tx_zero h0 h1 h2 h4] at he
              obtain ⟨y, e1, e2⟩ := ih (k + 2) _ _ _ (by omega) he
              refine ⟨0 :: y, by rw [e1]; simp, ?_⟩
              rw [drop_cons h0, drop_cons (show k + 1 < s.length by omega), u8_at (c := 0) h1, u8_at (c := 255) h4, e2, enc_zero]; rfl
            · rw [tx_form h0 h1 h2 h3 h4] at he; simp at he
      · rw [tx_char h0 h1] at he
        obtain ⟨y, e1, e2⟩ := ih (k + 1) _ _ _ (by omega) he
        have hc : ¬ s.getD k 0 = 0 := fun z => h1 (by unfold bl; rw [z]; rfl)
        refine ⟨s.getD k 0 :: y, by rw [e1]; simp, ?_⟩
        rw [drop_cons h0, e2, enc_char hc]; rfl
    · rw [tx_end h0] at he; simp at he
theorem tx_again {s : List UInt8} (h : txE s = 0) : textB (txS s) ++ txR s = s := by
  have he : txF s 0 [] = (txS s, txN s, 0) := by
    have : txF s 0 [] = (txS s, txN s, txE s) := rfl
    rw [this, h]
  obtain ⟨y, e1, e2⟩ := tx_what s s.length 0 [] _ _ (by omega) he
  rw [List.nil_append] at e1
  rw [List.drop_zero] at e2
  rw [e1]
  exact e2.symm
/-- while a text is read that ends well -/
theorem tx_room {s acc : List UInt8} {k : Nat} {l : List Int} (h : s.length ≤ 140737488355327 ∨ txE s = 0 ∧ (txS s).length ≤ 140737488355327) (hF : txF s k acc = txF s 0 []) (hb : bytesOf l = acc) (hl : l.length ≤ k) (hk : k < s.length) : l.length + 1 ≤ 140737488355328 := by
  rcases h with h | ⟨h1, h2⟩
  · omega
  · have he : txF s k acc = (txS s, txN s, 0) := by
      rw [hF]
      have : txF s 0 [] = (txS s, txN s, txE s) := rfl
      rw [this, h1]
    obtain ⟨y, e1, _⟩ := tx_what s s.length k acc _ _ (by omega) he
    have e2 := congrArg List.length e1
    rw [List.length_append, ← hb, bytesOf_len] at e2
    omega
theorem bl_mid (p r : List UInt8) (c : UInt8) : bl (p ++ c :: r) p.length = (c.toNat : Int) := by unfold bl; simp
theorem bl_mid2 (p r : List UInt8) (c d : UInt8) : bl (p ++ c :: d :: r) (p.length + 1) = (d.toNat : Int) := by
  unfold bl
  rw [List.getD_eq_getElem?_getD, List.getElem?_append_right (by omega)]
  simp
theorem tx_back : ∀ (s p acc r : List UInt8), txF (p ++ (enc s ++ 0 :: 1 :: r)) p.length acc = (acc ++ s, p.length + (enc s).length + 2, 0)
  | [], p, acc, r => by
    rw [tx_done (by simp [enc]) (by rw [show enc [] = [] from rfl, List.nil_append, bl_mid]; rfl) (by simp [enc]) (by rw [show enc [] = [] from rfl, List.nil_append, bl_mid2]; rfl)]
    simp [enc]
  | c :: s, p, acc, r => by
    by_cases h : c = 0
    · subst h
      have ih := tx_back s (p ++ [0, 255]) (acc ++ [0]) r
      rw [enc_zero]
      have e : p ++ (0 :: 255 :: enc s ++ 0 :: 1 :: r) = (p ++ [0, 255]) ++ (enc s ++ 0 :: 1 :: r) := by simp
      rw [tx_zero (by simp) (by rw [List.cons_append, bl_mid]; rfl) (by simp) (by rw [List.cons_append, List.cons_append, bl_mid2]; rfl), e]
      rw [show p.length + 2 = (p ++ [0, 255]).length by simp, ih]
      simp; omega
    · have ih := tx_back s (p ++ [c]) (acc ++ [c]) r
      rw [enc_char h]
      have e : p ++ (c :: enc s ++ 0 :: 1 :: r) = (p ++ [c]) ++ (enc s ++ 0 :: 1 :: r) := by simp
      have hg : (p ++ (c :: enc s ++ 0 :: 1 :: r)).getD p.length 0 = c := u8_at (by rw [List.cons_append, bl_mid])
      have hc : c.toNat ≠ 0 := fun z => h (UInt8.toNat.inj z)
      rw [tx_char (by simp) (by rw [List.cons_append, bl_mid]; omega), hg, e]
      rw [show p.length + 1 = (p ++ [c]).length by simp, ih]
      simp; omega
theorem text_back (s r : List UInt8) : txS (textB s ++ r) = s ∧ txE (textB s ++ r) = 0 ∧ txR (textB s ++ r) = r := by
  have h := tx_back s [] [] r
  rw [List.nil_append, List.nil_append] at h
  have e : textB s ++ r = enc s ++ 0 :: 1 :: r := by unfold textB; simp
  have h2 : txF (textB s ++ r) 0 [] = (s, (enc s).length + 2, 0) := by rw [e]; simpa using h
  refine ⟨by unfold txS; rw [h2], by unfold txE; rw [h2], ?_⟩
  unfold txR txN
  rw [h2, e]
  show List.drop ((enc s).length + 2) (enc s ++ 0 :: 1 :: r) = r
  rw [show enc s ++ 0 :: 1 :: r = (enc s ++ [0, 1]) ++ r by simp]
  exact List.drop_left' (by simp)
theorem num_again {s : List UInt8} (h : (numP s).2.2 = 0) : nb (numP s).1 ++ numR s = s := by
  unfold numR
  rw [show nb (numP s).1 = _ from numP_take h, List.take_append_drop]
theorem num_back {n : Int} (hn : Fit n) (r : List UInt8) : (numP (nb n ++ r)).1 = n ∧ (numP (nb n ++ r)).2.2 = 0 ∧ numR (nb n ++ r) = r := by
  have h := numP_back hn r
  have h' : numP (nb n ++ r) = (n, ((numB n).length : Int), 0) := h
  refine ⟨by rw [h'], by rw [h'], ?_⟩
  unfold numR; rw [h']
  exact List.drop_left' (by rw [bytesOf_len]; simp)
theorem blk_again {s : List UInt8} (h : blkE s = 0) : blk (blkS s) ++ blkR s = s := by
  obtain ⟨h1, h2, h3, h4⟩ := blk_yes h
  have h5 := (cntP_take h1).1
  have h6 := (cntP_bd s).1
  have e1 : ((blkS s).length : Int) = (cntP s).1 := by rw [h4]; omega
  unfold blk blkR
  rw [e1, h5, h3]
  have e2 : blkS s = (s.drop (cntP s).2.1.toNat).take (cntP s).1.toNat := by unfold blkS; rw [if_pos h]
  rw [e2]
  have e3 : s.drop ((cntP s).2.1.toNat + (cntP s).1.toNat) = (s.drop (cntP s).2.1.toNat).drop (cntP s).1.toNat := by rw [List.drop_drop]
  rw [e3, List.append_assoc, List.take_append_drop, List.take_append_drop]
/-! ### items -/
structure It where
  kind : Int
  n : Int
  s : List UInt8
def itz : It := ⟨0, 0, []⟩
def itC (x : It) : List Value := [.int .u8 x.kind, .int .i64 x.n, .string (sb x.s)]
theorem itC_len (x : It) : (itC x).length = 3 := rfl
theorem itC_one (x : It) : ∀ u ∈ itC x, u.oneCell' = true := by
  intro u hu; simp [itC] at hu; rcases hu with rfl | rfl | rfl <;> rfl
def GoodIt (x : It) : Prop := (0 ≤ x.kind ∧ x.kind ≤ 255) ∧ Fit x.n ∧ x.s.length ≤ 140737488355326
def itB (x : It) : List UInt8 := if x.kind % 3 = 0 then nb x.n else if x.kind % 3 = 1 then textB x.s else blk x.s
def itsB (l : List It) : List UInt8 := l.flatMap itB
section
variable {l : List It} {i : Nat} {more : List UInt8}
theorem its_snoc (h : i < l.length) : itsB (l.take (i + 1)) = itsB (l.take i) ++ itB (l.getD i itz) := by
  unfold itsB
  rw [List.take_succ_eq_append_getElem h, List.getD_eq_getElem?_getD, List.getElem?_eq_getElem h, List.flatMap_append, List.flatMap_singleton]; rfl
theorem its_drop (h : i < l.length) : itsB (l.drop i) = itB (l.getD i itz) ++ itsB (l.drop (i + 1)) := by
  unfold itsB
  rw [List.drop_eq_getElem_cons h, List.getD_eq_getElem?_getD, List.getElem?_eq_getElem h, List.flatMap_cons]; rfl
theorem it_len {x : It} (h : GoodIt x) : (itB x).length ≤ 281474976710700 := by
  have h1 := numB_len x.n
  have h2 := textB_len x.s
  have h3 := blk_len x.s
  have h4 := h.2.2
  unfold itB
  repeat' split
  · rw [bytesOf_len]; omega
  · omega
  · omega
theorem its_len : ∀ {l : List It}, (∀ x ∈ l, GoodIt x) → (itsB l).length ≤ l.length * 281474976710700
  | [], _ => Nat.zero_le _
  | x :: l, h => by
    have h1 := it_len (h x (List.mem_cons_self ..))
    have h2 := its_len (l := l) fun y hy => h y (List.mem_cons_of_mem _ hy)
    show (itB x ++ itsB l).length ≤ _
    rw [List.length_append, List.length_cons]; omega
theorem good_mem (hw : ∀ j, GoodIt (l.getD j itz)) : ∀ x ∈ l, GoodIt x := fun x hx => by
  obtain ⟨j, hj, rfl⟩ := List.getElem_of_mem hx
  have := hw j
  rwa [List.getD_eq_getElem?_getD, List.getElem?_eq_getElem hj] at this
theorem its_room (hw : ∀ j, GoodIt (l.getD j itz)) (hl : l.length ≤ 300) (hm : more.length ≤ 140737488355328) (i : Nat) : (itsB (l.drop i)).length + more.length ≤ 9000000000000000000 ∧ (itsB (l.take i)).length ≤ 90000000000000000 := by
  have h1 := its_len (l := l.drop i) fun x hx => good_mem hw x (List.mem_of_mem_drop hx)
  have h2 := its_len (l := l.take i) fun x hx => good_mem hw x (List.mem_of_mem_take hx)
  rw [List.length_drop] at h1
  rw [List.length_take] at h2
  have h3 : (l.length - i) * 281474976710700 ≤ 300 * 281474976710700 := Nat.mul_le_mul_right _ (by omega)
  have h4 : min i l.length * 281474976710700 ≤ 300 * 281474976710700 := Nat.mul_le_mul_right _ (by omega)
  omega
theorem back_num (h : i < l.length) (hg : GoodIt (l.getD i itz)) (hk : (l.getD i itz).kind % 3 = 0) : (numP (itsB (l.drop i) ++ more)).1 = (l.getD i itz).n ∧ (numP (itsB (l.drop i) ++ more)).2.2 = 0 ∧ numR (itsB (l.drop i) ++ more) = itsB (l.drop (i + 1)) ++ more := by
  rw [its_drop h, show itB (l.getD i itz) = nb (l.getD i itz).n by unfold itB; rw [if_pos hk], List.append_assoc]
  exact num_back hg.2.1 _
theorem back_text (h : i < l.length) (hk : (l.getD i itz).kind % 3 = 1) : txS (itsB (l.drop i) ++ more) = (l.getD i itz).s ∧ txE (itsB (l.drop i) ++ more) = 0 ∧ txR (itsB (l.drop i) ++ more) = itsB (l.drop (i + 1)) ++ more := by
  rw [its_drop h, show itB (l.getD i itz) = textB (l.getD i itz).s by unfold itB; rw [if_neg (by omega), if_pos hk], List.append_assoc]
  exact text_back _ _
theorem back_blk (h : i < l.length) (hg : GoodIt (l.getD i itz)) (hk : ¬ (l.getD i itz).kind % 3 = 0) (hk2 : ¬ (l.getD i itz).kind % 3 = 1) : blkS (itsB (l.drop i) ++ more) = (l.getD i itz).s ∧ blkE (itsB (l.drop i) ++ more) = 0 ∧ blkR (itsB (l.drop i) ++ more) = itsB (l.drop (i + 1)) ++ more := by
  rw [its_drop h, show itB (l.getD i itz) = blk (l.getD i itz).s by unfold itB; rw [if_neg hk, if_neg hk2], List.append_assoc]
  have hs := hg.2.2
  obtain ⟨h1, h2, h3⟩ := blk_back (s := (l.getD i itz).s) (by omega) (itsB (l.drop (i + 1)) ++ more)
  exact ⟨h2, h1, h3⟩
end
theorem tx_still {s : List UInt8} (h : txE s ≠ 0) : txR s = s := by unfold txR; rw [((txN_le s).2.1 h).1]; rfl
theorem blk_still {s : List UInt8} (h : blkE s ≠ 0) : blkR s = s := by unfold blkR blkN; rw [if_neg h]; rfl
theorem blk_none {s : List UInt8} (h : blkE s ≠ 0) : blkS s = [] := by unfold blkS; rw [if_neg h]
theorem good_one {x : It} (h : 0 ≤ x.kind ∧ x.kind ≤ 255) (h2 : Fit x.n) (h3 : x.s.length ≤ 140737488355326) : ∀ j, GoodIt (List.getD [x] j itz) := by
  intro j
  match j with
  | 0 => exact ⟨h, h2, h3⟩
  | j + 1 => exact (show GoodIt itz from ⟨by decide, by decide, by decide⟩)
theorem its_one (x : It) : itsB [x] = itB x := by simp [itsB]
theorem it_num {k n : Int} {s : List UInt8} (h : k % 3 = 0) : itB ⟨k, n, s⟩ = nb n := if_pos h
theorem it_text {k n : Int} {s : List UInt8} (h : k % 3 = 1) : itB ⟨k, n, s⟩ = textB s := by unfold itB; rw [if_neg (by simp only; omega), if_pos h]
theorem it_blk {k n : Int} {s : List UInt8} (h : ¬ k % 3 = 0) (h2 : ¬ k % 3 = 1) : itB ⟨k, n, s⟩ = blk s := by unfold itB; rw [if_neg h, if_neg h2]
end Go.DoorP
namespace Go.DoorP
open Go.Gw Go.NumP Go.SealP Go.TupP
set_option linter.unusedVariables false
set_option linter.unusedSimpArgs false
theorem take_snocI (l : List Int) {k : Nat} (h : k < l.length) : l.take (k + 1) = l.take k ++ [l.getD k 0] := Go.NumP.take_snoc l h
/-! ### rows, one behind the other -/
def zipR (S : List (List UInt8)) (X : List Int) (n : Nat) : List RowT := (List.range n).map fun i => (S.getD i [], X.getD i 0)
theorem zipR_len (S : List (List UInt8)) (X : List Int) (n : Nat) : (zipR S X n).length = n := by simp [zipR]
theorem zipR_snoc (S : List (List UInt8)) (X : List Int) (n : Nat) : zipR S X (n + 1) = zipR S X n ++ [(S.getD n [], X.getD n 0)] := by
  unfold zipR; rw [List.range_succ, List.map_append]; rfl
theorem zipR_fit {S : List (List UInt8)} {X : List Int} (hx : ∀ j, Fit (X.getD j 0)) (n : Nat) : ∀ p ∈ zipR S X n, Fit p.2 := by
  intro p hp
  obtain ⟨i, _, rfl⟩ := List.mem_map.1 hp
  exact hx i
def diffR : List RowT → List RowT → Int
  | p :: a, q :: b => if cmpR p q = 0 then diffR a b else cmpR p q
  | _, _ => 0
theorem diff_nil (a : List RowT) : diffR a [] = 0 := by cases a <;> rfl
theorem diff_keep : ∀ {a b : List RowT} (c d : List RowT), diffR a b ≠ 0 → diffR (a ++ c) (b ++ d) = diffR a b
  | [], _, _, _, h => absurd rfl h
  | _ :: _, [], _, _, h => absurd rfl h
  | p :: a, q :: b, c, d, h => by
    rw [diffR] at h
    rw [List.cons_append, List.cons_append, diffR, diffR]
    by_cases e : cmpR p q = 0
    · rw [if_pos e] at h ⊢; rw [if_pos e]; exact diff_keep c d h
    · rw [if_neg e, if_neg e]
theorem diff_extr : ∀ {a b : List RowT} (d : List RowT), a.length ≤ b.length → diffR a (b ++ d) = diffR a b
  | [], b, d, _ => by cases b <;> cases d <;> rfl
  | _ :: _, [], _, h => absurd h (by simp)
  | p :: a, q :: b, d, h => by
    rw [List.cons_append, diffR, diffR, diff_extr d (by simpa using h)]
theorem diff_extl : ∀ {a b : List RowT} (c : List RowT), b.length ≤ a.length → diffR (a ++ c) b = diffR a b
  | a, [], c, _ => by rw [diff_nil, diff_nil]
  | [], _ :: _, _, h => absurd h (by simp)
  | p :: a, q :: b, c, h => by
    rw [List.cons_append, diffR, diffR, diff_extl c (by simpa using h)]
theorem diff_snoc : ∀ {a b : List RowT} (p q : RowT), a.length = b.length → diffR a b = 0 → diffR (a ++ [p]) (b ++ [q]) = cmpR p q
  | [], [], p, q, _, _ => by
    show (if cmpR p q = 0 then diffR [] [] else cmpR p q) = cmpR p q
    split
    · rename_i h; rw [h]; rfl
    · rfl
  | [], _ :: _, _, _, h, _ => absurd h (by simp)
  | _ :: _, [], _, _, h, _ => absurd h (by simp)
  | x :: a, y :: b, p, q, h, hz => by
    rw [diffR] at hz
    rw [List.cons_append, List.cons_append, diffR]
    by_cases e : cmpR x y = 0
    · rw [if_pos e] at hz ⊢; exact diff_snoc p q (by simpa using h) hz
    · rw [if_neg e] at hz; exact absurd hz e
theorem want_val : ∀ a b : List RowT, wantR a b = if diffR a b = 0 then (if a.length < b.length then -1 else if b.length < a.length then 1 else 0) else diffR a b
  | [], [] => rfl
  | [], _ :: _ => by simp [wantR, diffR]
  | _ :: _, [] => by simp [wantR, diffR]
  | p :: a, q :: b => by
    rw [wantR, diffR]
    by_cases e : cmpR p q = 0
    · rw [if_pos e, if_pos e, want_val a b]; simp
    · rw [if_neg e, if_neg e, if_neg e]
theorem cmpT_zero {s t : List UInt8} : cmpT s t = 0 ↔ s = t := by
  rcases cmpT_cases s t with ⟨h, e⟩ | ⟨h, e⟩ | ⟨h, e⟩
  · rw [e]; refine ⟨fun z => absurd z (by decide), fun z => ?_⟩; subst z; have h1 := h.1; rw [less_irrefl] at h1; cases h1
  · rw [e]; refine ⟨fun z => absurd z (by decide), fun z => ?_⟩; subst z; have h1 := h.1; rw [less_irrefl] at h1; cases h1
  · rw [e]; exact ⟨fun _ => h, fun _ => rfl⟩
theorem cmpR_eq (s t : List UInt8) (x y : Int) : cmpR (s, x) (t, y) = if cmpT s t = 0 then cmpI x y else cmpT s t := by
  unfold cmpR
  by_cases e : s = t
  · rw [if_pos e, if_pos (cmpT_zero.2 e)]
  · rw [if_neg e, if_neg (fun z => e (cmpT_zero.1 z))]
section
variable {S T : List (List UInt8)} {X Y : List Int} {i a b : Nat} {one : List UInt8} {W : Int}
theorem row_step (h1 : one = rowsB (zipR S X (min i a))) (h : i < a) : (one ++ textB (S.getD i [])) ++ nb (X.getD i 0) = rowsB (zipR S X (min (i + 1) a)) := by
  rw [Nat.min_eq_left (by omega), zipR_snoc, h1, Nat.min_eq_left (by omega)]
  simp [rowsB, rowB]
theorem row_stay (h1 : one = rowsB (zipR S X (min i a))) (h : ¬ i < a) : one = rowsB (zipR S X (min (i + 1) a)) := by
  rw [h1, Nat.min_eq_right (by omega), Nat.min_eq_right (by omega)]
theorem rows_room (hs : ∀ j, (S.getD j []).length ≤ 140737488351232) : ∀ n, (rowsB (zipR S X n)).length ≤ n * 281474976710700
  | 0 => by simp [zipR, rowsB]
  | n + 1 => by
    have ih := rows_room hs n
    have h1 := textB_len (S.getD n [])
    have h2 := numB_len (X.getD n 0)
    have h3 := hs n
    rw [zipR_snoc]
    unfold rowsB at *
    rw [List.flatMap_append, List.length_append, List.flatMap_singleton, show rowB (S.getD n [], X.getD n 0) = textB (S.getD n []) ++ nb (X.getD n 0) from rfl, List.length_append, bytesOf_len]
    omega
theorem row_room (h1 : one = rowsB (zipR S X (min i a))) (hs : ∀ j, (S.getD j []).length ≤ 140737488351232) (ha : a ≤ 100) : one.length ≤ 28147497671070000 := by
  rw [h1]
  have := rows_room (X := X) hs (min i a)
  have h2 : min i a * 281474976710700 ≤ 100 * 281474976710700 := Nat.mul_le_mul_right _ (by omega)
  omega
theorem zip_more (n k : Nat) : ∃ c, zipR S X (n + k) = zipR S X n ++ c := by
  induction k with
  | zero => exact ⟨[], by simp⟩
  | succ k ih => obtain ⟨c, h⟩ := ih; exact ⟨c ++ _, by rw [← Nat.add_assoc, zipR_snoc, h, List.append_assoc]⟩
theorem zip_min (S : List (List UInt8)) (X : List Int) (i a : Nat) : ∃ c, zipR S X (min (i + 1) a) = zipR S X (min i a) ++ c := by
  have : ∃ k, min (i + 1) a = min i a + k := ⟨min (i + 1) a - min i a, by omega⟩
  obtain ⟨k, e⟩ := this
  rw [e]; exact zip_more _ _
theorem w_keep (h : W = diffR (zipR S X (min i a)) (zipR T Y (min i b))) (hne : W ≠ 0) : W = diffR (zipR S X (min (i + 1) a)) (zipR T Y (min (i + 1) b)) := by
  obtain ⟨c, e1⟩ := zip_min S X i a
  obtain ⟨d, e2⟩ := zip_min T Y i b
  rw [e1, e2, diff_keep c d (by rw [← h]; exact hne)]; exact h
theorem w_out (h : W = diffR (zipR S X (min i a)) (zipR T Y (min i b))) (ho : a ≤ i ∨ b ≤ i) : W = diffR (zipR S X (min (i + 1) a)) (zipR T Y (min (i + 1) b)) := by
  obtain ⟨c, e1⟩ := zip_min S X i a
  obtain ⟨d, e2⟩ := zip_min T Y i b
  rcases ho with ho | ho
  · rw [show min (i + 1) a = min i a by omega]
    rcases Nat.lt_or_ge b a with g | g
    · rw [show min (i + 1) b = min i b by omega]; exact h
    · rw [e2, diff_extr d (by rw [zipR_len, zipR_len]; omega)]; exact h
  · rw [show min (i + 1) b = min i b by omega]
    rcases Nat.lt_or_ge a b with g | g
    · rw [show min (i + 1) a = min i a by omega]; exact h
    · rw [e1, diff_extl c (by rw [zipR_len, zipR_len]; omega)]; exact h
theorem w_new (h : W = diffR (zipR S X (min i a)) (zipR T Y (min i b))) (hz : W = 0) (h1 : i < a) (h2 : i < b) : cmpR (S.getD i [], X.getD i 0) (T.getD i [], Y.getD i 0) = diffR (zipR S X (min (i + 1) a)) (zipR T Y (min (i + 1) b)) := by
  rw [Nat.min_eq_left (show i + 1 ≤ a by omega), Nat.min_eq_left (show i + 1 ≤ b by omega), zipR_snoc, zipR_snoc, diff_snoc _ _ (by rw [zipR_len, zipR_len]) (by rw [Nat.min_eq_left (show i ≤ a by omega), Nat.min_eq_left (show i ≤ b by omega)] at h; rw [← h, hz])]
theorem rows_fin {two : List UInt8} (h1 : one = rowsB (zipR S X (min i a))) (h2 : two = rowsB (zipR T Y (min i b))) (hx : ∀ j, Fit (X.getD j 0)) (hy : ∀ j, Fit (Y.getD j 0)) (hW : W = diffR (zipR S X (min i a)) (zipR T Y (min i b))) (ha : a ≤ i) (hb : b ≤ i) :
    cmpT one two = if W = 0 then (if a < b then -1 else if b < a then 1 else 0) else W := by
  rw [h1, h2, rows_cmp _ _ (zipR_fit hx _) (zipR_fit hy _), want_val, ← hW, zipR_len, zipR_len, Nat.min_eq_right ha, Nat.min_eq_right hb]
end
end Go.DoorP
