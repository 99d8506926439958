/-
  Blocks, and contents that are sealed, as plain lists. No condition.
-/
import Derived.Test.YtmjkbmlcclmdkaaDoorCrcP
import Derived.Test.YtmjkbmlcclmdkaaDoorNumR
namespace Go.SealP
open Go.Gw Go.NumP Go.CrcP
set_option linter.unusedVariables false
set_option linter.unusedSimpArgs false

/-- a block: how many bytes, the bytes -/
def blk (s : List UInt8) : List UInt8 := bytesOf (numB (s.length : Int)) ++ s
theorem blk_len (s : List UInt8) : s.length + 1 ≤ (blk s).length ∧ (blk s).length ≤ s.length + 9 := by
  have := numB_len (s.length : Int)
  unfold blk; rw [List.length_append, show (bytesOf (numB (s.length : Int))).length = (numB (s.length : Int)).length by simp [bytesOf]]; omega
/-- a block that begins bytes: its bytes, how many bytes it takes, the error -/
def blkE (s : List UInt8) : Int := if (cntP s).2.2 ≠ 0 then (cntP s).2.2 else if (s.length : Int) - (cntP s).2.1 < (cntP s).1 then 2 else 0
def blkN (s : List UInt8) : Nat := if blkE s = 0 then (cntP s).2.1.toNat + (cntP s).1.toNat else 0
def blkS (s : List UInt8) : List UInt8 := if blkE s = 0 then (s.drop (cntP s).2.1.toNat).take (cntP s).1.toNat else []
/-- what is left behind a block; all, if there is none -/
def blkR (s : List UInt8) : List UInt8 := s.drop (blkN s)
theorem cnt_bd (s : List UInt8) : 0 ≤ (cntP s).2.1 ∧ (cntP s).2.1 ≤ (s.length : Int) ∧ ((cntP s).2.2 = 0 → 0 ≤ (cntP s).1) ∧ (cntP s).1 ≤ 9223372036854775807 := by
  have h := numP_bd s
  unfold cntP
  split
  · refine ⟨by simp, by simp, by simp, by simp⟩
  · rename_i hn
    refine ⟨by omega, by omega, fun h0 => ?_, by omega⟩
    rcases Decidable.em ((numP s).1 < 0) with h1 | h1
    · exact absurd ⟨h0, h1⟩ hn
    · omega
theorem blk_yes {s : List UInt8} (h : blkE s = 0) : (cntP s).2.2 = 0 ∧ (cntP s).2.1.toNat + (cntP s).1.toNat ≤ s.length ∧ blkN s = (cntP s).2.1.toNat + (cntP s).1.toNat ∧ (blkS s).length = (cntP s).1.toNat := by
  have hb := cnt_bd s
  have h2 : (cntP s).2.2 = 0 := by
    unfold blkE at h; split at h
    · rename_i h1; exact absurd h h1
    · omega
  have h3 : (cntP s).2.1.toNat + (cntP s).1.toNat ≤ s.length := by
    unfold blkE at h
    rw [if_neg (fun z => z h2)] at h
    split at h
    · cases h
    · have := hb.2.2.1 h2; omega
  refine ⟨h2, h3, by unfold blkN; rw [if_pos h], ?_⟩
  unfold blkS; rw [if_pos h, List.length_take, List.length_drop]; omega
theorem blkN_le (s : List UInt8) : blkN s ≤ s.length := by
  by_cases h : blkE s = 0
  · have := blk_yes h; omega
  · unfold blkN; rw [if_neg h]; omega
theorem blkS_len (s : List UInt8) : (blkS s).length ≤ blkN s := by
  by_cases h : blkE s = 0
  · have := blk_yes h; omega
  · unfold blkS blkN; rw [if_neg h, if_neg h]; simp
theorem blkE_err {s : List UInt8} (h : (cntP s).2.2 ≠ 0) : blkE s = (cntP s).2.2 ∧ blkS s = [] ∧ blkR s = s ∧ blkN s = 0 := by
  have e : blkE s = (cntP s).2.2 := by unfold blkE; rw [if_pos h]
  have hn : blkN s = 0 := by unfold blkN; rw [e, if_neg h]
  exact ⟨e, by unfold blkS; rw [e, if_neg h], by unfold blkR; rw [hn]; rfl, hn⟩
theorem blkE_short {s : List UInt8} (h : (cntP s).2.2 = 0) (h2 : (s.length : Int) - (cntP s).2.1 < (cntP s).1) : blkE s = 2 ∧ blkS s = [] ∧ blkR s = s ∧ blkN s = 0 := by
  have e : blkE s = 2 := by unfold blkE; rw [if_neg (fun z => z h), if_pos h2]
  have hn : blkN s = 0 := by unfold blkN; rw [e, if_neg (by decide)]
  exact ⟨e, by unfold blkS; rw [e, if_neg (by decide)], by unfold blkR; rw [hn]; rfl, hn⟩
theorem blkE_ok {s : List UInt8} (h : (cntP s).2.2 = 0) (h2 : ¬ (s.length : Int) - (cntP s).2.1 < (cntP s).1) :
    blkE s = 0 ∧ blkS s = (s.drop (cntP s).2.1.toNat).take (cntP s).1.toNat ∧ blkR s = s.drop ((cntP s).2.1.toNat + (cntP s).1.toNat) ∧ blkN s = (cntP s).2.1.toNat + (cntP s).1.toNat := by
  have e : blkE s = 0 := by unfold blkE; rw [if_neg (fun z => z h), if_neg h2]
  have hn : blkN s = (cntP s).2.1.toNat + (cntP s).1.toNat := by unfold blkN; rw [if_pos e]
  exact ⟨e, by unfold blkS; rw [if_pos e], by unfold blkR; rw [hn], hn⟩
theorem blkE_cases (s : List UInt8) : blkE s = 0 ∨ blkE s = 2 ∨ blkE s = (cntP s).2.2 := by
  unfold blkE; split
  · exact .inr (.inr rfl)
  · split
    · exact .inr (.inl rfl)
    · exact .inl rfl

/-- sealed, but for the checksum -/
def sealB (kind : Int) (s : List UInt8) : List UInt8 := [103, 108, 115] ++ [UInt8.ofNat kind.toNat] ++ blk s
def four (c : Nat) : List Int := [((c % 256 : Nat) : Int), ((c / 256 % 256 : Nat) : Int), ((c / 65536 % 256 : Nat) : Int), ((c / 16777216 % 256 : Nat) : Int)]
theorem four_bd (c : Nat) : ∀ x ∈ four c, 0 ≤ x ∧ x ≤ 255 := by
  intro x hx; simp only [four, List.mem_cons, List.not_mem_nil, or_false] at hx; omega
def sealA (kind : Int) (s : List UInt8) : List UInt8 := sealB kind s ++ bytesOf (four (crc (sealB kind s)))
def isKind (kind : Int) : Prop := 0 ≤ kind ∧ kind ≤ 255
instance (k : Int) : Decidable (isKind k) := by unfold isKind; infer_instance
def sealT (kind : Int) (s : List UInt8) : List UInt8 := if isKind kind then sealA kind s else []
def sealE (kind : Int) : Int := if isKind kind then 0 else 1
theorem bytesOf_len' (l : List Int) : (bytesOf l).length = l.length := by simp [bytesOf]
theorem sealB_len (kind : Int) (s : List UInt8) : (sealB kind s).length = 4 + (blk s).length := by simp [sealB]; omega
theorem sealA_len (kind : Int) (s : List UInt8) : (sealA kind s).length = 8 + (blk s).length := by
  unfold sealA; rw [List.length_append, sealB_len, bytesOf_len']; simp [four]; omega
theorem sealT_len (kind : Int) (s : List UInt8) : (sealT kind s).length ≤ s.length + 17 := by
  have := blk_len s; unfold sealT; split
  · rw [sealA_len]; omega
  · simp

/-- do bytes begin so? -/
def headE : List UInt8 → List UInt8 → Int
  | [], _ => 0
  | _ :: _, [] => 2
  | w :: ws, x :: xs => if x = w then headE ws xs else 3
def wantP (kind : Int) : List UInt8 := [103, 108, 115, UInt8.ofNat kind.toNat]
/-- the error of an opening -/
def openE (kind : Int) (b : List UInt8) : Int :=
  if ¬ isKind kind then 1
  else if headE (wantP kind) b ≠ 0 then headE (wantP kind) b
  else if blkE (b.drop 4) ≠ 0 then blkE (b.drop 4)
  else if (blkR (b.drop 4)).length < 4 then 2
  else if 4 < (blkR (b.drop 4)).length then 5
  else if sealT kind (blkS (b.drop 4)) ≠ b then 6
  else 0
def openS (kind : Int) (b : List UInt8) : List UInt8 := if openE kind b = 0 then blkS (b.drop 4) else []
theorem open_err {kind : Int} {b : List UInt8} {e : Int} (h : openE kind b = e) (he : e ≠ 0) : openS kind b = [] ∧ openE kind b = e := ⟨by unfold openS; rw [h, if_neg he], h⟩
theorem open_ok {kind : Int} {b : List UInt8} (h : openE kind b = 0) : openS kind b = blkS (b.drop 4) ∧ openE kind b = 0 := ⟨by unfold openS; rw [if_pos h], h⟩
theorem open1 {kind : Int} {b : List UInt8} (h : ¬ isKind kind) : openE kind b = 1 := by unfold openE; rw [if_pos h]
section
variable {kind : Int} {b : List UInt8}
theorem openH (hk : isKind kind) {e : Int} (h : headE (wantP kind) b = e) (he : e ≠ 0) : openE kind b = e := by unfold openE; rw [if_neg (fun z => z hk), if_pos (by rw [h]; exact he), h]
theorem openB (hk : isKind kind) (h : headE (wantP kind) b = 0) (he : blkE (b.drop 4) ≠ 0) : openE kind b = blkE (b.drop 4) := by unfold openE; rw [if_neg (fun z => z hk), if_neg (fun z => z h), if_pos he]
theorem openR (hk : isKind kind) (h : headE (wantP kind) b = 0) (he : blkE (b.drop 4) = 0) : openE kind b = if (blkR (b.drop 4)).length < 4 then 2
  else if 4 < (blkR (b.drop 4)).length then 5 else if sealT kind (blkS (b.drop 4)) ≠ b then 6 else 0 := by
  unfold openE; rw [if_neg (fun z => z hk), if_neg (fun z => z h), if_neg (fun z => z he)]
end
theorem headE_nil (ws : List UInt8) (w : UInt8) : headE (w :: ws) [] = 2 := rfl
/-- the head, place by place -/
theorem head_short {ws b : List UInt8} : ∀ {k : Nat}, (∀ j, j < k → b.getD j 0 = ws.getD j 0) → k < ws.length → b.length ≤ k → headE ws b = 2 := by
  induction ws generalizing b with
  | nil => intro k _ h; simp at h
  | cons w ws ih =>
    intro k ha hk hb
    cases b with
    | nil => rfl
    | cons x b =>
      cases k with
      | zero => simp at hb
      | succ k =>
        have h0 := ha 0 (by omega)
        simp only [List.getD_cons_zero] at h0
        rw [headE, if_pos h0]
        exact ih (k := k) (fun j hj => by have := ha (j + 1) (by omega); simpa using this) (by simpa using hk) (by simpa using hb)
theorem head_form {ws b : List UInt8} : ∀ {k : Nat}, (∀ j, j < k → b.getD j 0 = ws.getD j 0) → k < ws.length → k < b.length → b.getD k 0 ≠ ws.getD k 0 → headE ws b = 3 := by
  induction ws generalizing b with
  | nil => intro k _ h; simp at h
  | cons w ws ih =>
    intro k ha hk hb hne
    cases b with
    | nil => simp at hb
    | cons x b =>
      cases k with
      | zero => rw [headE, if_neg (by simpa using hne)]
      | succ k =>
        have h0 := ha 0 (by omega)
        simp only [List.getD_cons_zero] at h0
        rw [headE, if_pos h0]
        exact ih (k := k) (fun j hj => by have := ha (j + 1) (by omega); simpa using this) (by simpa using hk) (by simpa using hb) (by simpa using hne)
theorem head_good {ws b : List UInt8} (ha : ∀ j, j < ws.length → b.getD j 0 = ws.getD j 0) (hb : ws.length ≤ b.length) : headE ws b = 0 := by
  induction ws generalizing b with
  | nil => rfl
  | cons w ws ih =>
    cases b with
    | nil => simp at hb
    | cons x b =>
      have h0 := ha 0 (by simp)
      simp only [List.getD_cons_zero] at h0
      rw [headE, if_pos h0]
      exact ih (fun j hj => by have := ha (j + 1) (by simpa using hj); simpa using this) (by simpa using hb)
theorem u8_of_bl {b : List UInt8} {k : Nat} {n : Nat} (hn : n < 256) (h : bl b k = (n : Int)) : b.getD k 0 = UInt8.ofNat n := by
  unfold bl at h
  apply UInt8.toNat_inj.1
  rw [UInt8.toNat_ofNat', Nat.mod_eq_of_lt (by omega)]; omega
theorem bl_of_u8 {b : List UInt8} {k : Nat} {n : Nat} (hn : n < 256) (h : b.getD k 0 = UInt8.ofNat n) : bl b k = (n : Int) := by
  unfold bl; rw [h, UInt8.toNat_ofNat', Nat.mod_eq_of_lt (by omega)]
theorem cntR_eq (s : List UInt8) : cntR s = s.drop (cntP s).2.1.toNat := rfl
theorem cntR_len (s : List UInt8) : (cntR s).length = s.length - (cntP s).2.1.toNat := by rw [cntR_eq, List.length_drop]
theorem ret_blk {a a' : List UInt8} {b b' c c' : Int} (h : a = a') (h2 : b = b') (h3 : c = c') : Ending.returned (.tuple #[.string (sb a), .int .i64 b, .int .i64 c]) = .returned (.tuple #[.string (sb a'), .int .i64 b', .int .i64 c']) := by rw [h, h2, h3]
theorem seal_bytes (kind : Int) (s : List UInt8) : [103, 108, 115] ++ [UInt8.ofNat kind.toNat] ++ blk s = sealB kind s := rfl
theorem seal_leaf {kind : Int} {s X : List UInt8} {l : List Int} (hX : X = sealB kind s) (hl : l = four (crc X)) : X ++ bytesOf l = sealA kind s := by subst hX; subst hl; rfl
theorem upto0 {p : Nat → Prop} : ∀ j, j < 0 → p j := fun j h => absurd h (Nat.not_lt_zero j)
theorem upto1 {p : Nat → Prop} (h0 : p 0) : ∀ j, j < 1 → p j := fun j h => by obtain rfl : j = 0 := by omega
                                                                              exact h0
theorem upto_succ {p : Nat → Prop} {n : Nat} (h : ∀ j, j < n → p j) (hn : p n) : ∀ j, j < n + 1 → p j := fun j hj => by
  rcases Nat.lt_succ_iff_lt_or_eq.1 hj with h1 | h1
  · exact h j h1
  · subst h1; exact hn
theorem want_at (kind : Int) : bl ([103, 108, 115] ++ bytesOf [((Int.toNat kind : Nat) : Int)]) 0 = 103 ∧ bl ([103, 108, 115] ++ bytesOf [((Int.toNat kind : Nat) : Int)]) 1 = 108 ∧ bl ([103, 108, 115] ++ bytesOf [((Int.toNat kind : Nat) : Int)]) 2 = 115 ∧
    (0 ≤ kind → kind ≤ 255 → bl ([103, 108, 115] ++ bytesOf [((Int.toNat kind : Nat) : Int)]) 3 = kind) := by
  refine ⟨rfl, rfl, rfl, fun h0 h1 => ?_⟩
  show (((UInt8.ofNat (Int.toNat ((Int.toNat kind : Nat) : Int))).toNat : Nat) : Int) = kind
  rw [UInt8.toNat_ofNat', Int.toNat_natCast, Nat.mod_eq_of_lt (by omega)]; omega
end Go.SealP
