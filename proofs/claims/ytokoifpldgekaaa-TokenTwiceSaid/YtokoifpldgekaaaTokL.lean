/-
  The plain laws of layer 6. No condition beyond those that each theorem names.
-/
import Derived.Test.YtokoifpldgekaaaTokP
import Derived.Test.YtokoifpldgekaaaUtfL
namespace Go.TokP
open Go.Gw Go.UtfP
set_option linter.unusedVariables false
set_option linter.unusedSimpArgs false

theorem wordsG_app (t : List Int) : ∀ (r w : List Int), wordsG w (r ++ 32 :: t) = wordsG w (r ++ [32]) ++ wordsG [] t
  | [], w => by
    simp only [List.nil_append, wordsG, letter32]
    split <;> simp_all
    split <;> simp
  | c :: r, w => by
    simp only [List.cons_append, wordsG]
    split
    · exact wordsG_app t r _
    · split
      · exact wordsG_app t r _
      · rw [wordsG_app t r []]; rfl
theorem words_join (a b : List Int) : words (a ++ ([32] ++ b)) = words a ++ words b := by
  unfold words
  have := wordsG_app (b ++ [32]) a []
  rw [← this]; simp
theorem tok_zero {s : List UInt8} (h : tokE s = 0) : s.length ≤ 4096 ∧ decE s = 0 ∧ fits (words (decL s)) = true ∧ tokL s = toks (words (decL s)) := by
  unfold tokE at h
  by_cases h1 : 4096 < s.length
  · rw [if_pos h1] at h; omega
  · rw [if_neg h1] at h
    by_cases h2 : decE s ≠ 0
    · rw [if_pos h2] at h; exact absurd h h2
    · rw [if_neg h2] at h
      cases hf : fits (words (decL s)) with
      | false => rw [hf] at h; simp at h
      | true =>
        refine ⟨by omega, by omega, rfl, ?_⟩
        unfold tokL; rw [if_neg h1, if_pos hf]
theorem tokL_len (s : List UInt8) : (tokL s).length ≤ 4097 := by
  unfold tokL
  split
  · simp
  · split
    · rw [toks_len]
      have h1 := words_count (l := decL s) (ws := words (decL s)) (rs := []) (by simp)
      have h2 := @decL_len s
      omega
    · simp
theorem bne_f {x : Int} (h : x = 0) : (x != 0) = false := by rw [h]; rfl
theorem of_dec {s : List UInt8} (h : decE s = 0) : allW (decL s) = true ∧ s = bytesOf (enc (decL s)) := by
  obtain ⟨h1, h2⟩ := enc_dec (bne_f h)
  have ha : allW (decL s) = true := encE_zero (by rw [h1]; rfl)
  refine ⟨ha, ?_⟩
  unfold encT at h2
  rw [if_pos ha] at h2
  exact h2.symm
theorem allW_app {a b : List Int} : allW (a ++ b) = (allW a && allW b) := by unfold allW; rw [List.all_append]
theorem join_dec {a b : List UInt8} (ha : decE a = 0) (hb : decE b = 0) : decL (a ++ [32] ++ b) = decL a ++ ([32] ++ decL b) ∧ decE (a ++ [32] ++ b) = 0 := by
  obtain ⟨wa, ea⟩ := of_dec ha
  obtain ⟨wb, eb⟩ := of_dec hb
  have hw : allW (decL a ++ ([32] ++ decL b)) = true := by rw [allW_app, allW_app, wa, wb]; decide
  have e : a ++ [32] ++ b = bytesOf (enc (decL a ++ ([32] ++ decL b))) := by
    rw [enc_app, enc_app, bytesOf_app, bytesOf_app, ← ea, ← eb, List.append_assoc]; rfl
  rw [e]
  exact dec_enc hw
theorem fits_app (a b : List (List Int)) : fits (a ++ b) = (fits a && fits b) := by unfold fits; rw [List.all_append]
theorem join_tok {a b : List UInt8} (ha : tokE a = 0) (hb : tokE b = 0) (hl : a.length + b.length < 4096) :
    tokE (a ++ [32] ++ b) = 0 ∧ tokL (a ++ [32] ++ b) = toks (words (decL a) ++ words (decL b)) := by
  obtain ⟨_, da, fa, la⟩ := tok_zero ha
  obtain ⟨_, db, fb, lb⟩ := tok_zero hb
  obtain ⟨e1, e2⟩ := join_dec da db
  have hw : words (decL (a ++ [32] ++ b)) = words (decL a) ++ words (decL b) := by rw [e1, words_join]
  obtain ⟨r1, r2⟩ := tok_yes (s := a ++ [32] ++ b) (by simp; omega) e2 hw (by rw [fits_app, fa, fb]; rfl)
  exact ⟨r2, r1⟩
theorem toksF_get : ∀ (ws : List (List Int)) (n j : Nat), j < ws.length → (toksF n ws).getD j (Tok.mk [] 0) = ⟨termB (ws.getD j []), ((n + j : Nat) : Int)⟩
  | [], n, j, h => by simp at h
  | w :: ws, n, 0, h => by simp [toksF]
  | w :: ws, n, j + 1, h => by
    have := toksF_get ws (n + 1) j (by simpa using h)
    simp only [toksF, List.getD_cons_succ, this]
    rw [show n + 1 + j = n + (j + 1) by omega]
theorem toks_get {ws : List (List Int)} {j : Nat} (h : j < ws.length) : (toks ws).getD j (Tok.mk [] 0) = ⟨termB (ws.getD j []), (j : Int)⟩ := by
  have := toksF_get ws 0 j h; rwa [Nat.zero_add] at this
theorem join_left {a b : List UInt8} (ha : tokE a = 0) (hb : tokE b = 0) (hl : a.length + b.length < 4096) {j : Nat} (hj : j < (tokL a).length) :
    (tokL (a ++ [32] ++ b)).getD j (Tok.mk [] 0) = ⟨((tokL a).getD j (Tok.mk [] 0)).t, (j : Int)⟩ := by
  have hz := (tok_zero ha).2.2.2
  rw [hz, toks_len] at hj
  rw [(join_tok ha hb hl).2, hz, toks_get hj, toks_get (by rw [List.length_append]; omega)]
  congr 2
  simp [List.getD_eq_getElem?_getD, List.getElem?_append_left hj]
theorem join_right {a b : List UInt8} (ha : tokE a = 0) (hb : tokE b = 0) (hl : a.length + b.length < 4096) {j : Nat} (hj : ¬ j < (tokL a).length) (hj2 : j < (tokL (a ++ [32] ++ b)).length) :
    (tokL (a ++ [32] ++ b)).getD j (Tok.mk [] 0) = ⟨((tokL b).getD (j - (tokL a).length) (Tok.mk [] 0)).t, (j : Int)⟩ := by
  have hz := (tok_zero ha).2.2.2
  have hz2 := (tok_zero hb).2.2.2
  rw [(join_tok ha hb hl).2, toks_len, List.length_append] at hj2
  rw [hz, toks_len] at hj ⊢
  rw [(join_tok ha hb hl).2, hz2, toks_get (by rw [List.length_append]; omega), toks_get (by omega)]
  congr 2
  simp [List.getD_eq_getElem?_getD, List.getElem?_append_right (show (words (decL a)).length ≤ j by omega)]
theorem join_len {a b : List UInt8} (ha : tokE a = 0) (hb : tokE b = 0) (hl : a.length + b.length < 4096) : (tokL (a ++ [32] ++ b)).length = (tokL a).length + (tokL b).length := by
  rw [(join_tok ha hb hl).2, (tok_zero ha).2.2.2, (tok_zero hb).2.2.2, toks_len, toks_len, toks_len, List.length_append]

/-! ### words are words again -/
def good (w : List Int) : Prop := w ≠ [] ∧ allW w = true ∧ ∀ c ∈ w, letter c = true ∧ fold c = c
theorem wordsG_good : ∀ (r w : List Int), (∀ c ∈ w, letter c = true ∧ fold c = c) → ∀ x ∈ wordsG w r, x ≠ [] ∧ ∀ c ∈ x, letter c = true ∧ fold c = c
  | [], w, _, x, hx => by simp [wordsG] at hx
  | c :: r, w, hw, x, hx => by
    unfold wordsG at hx
    split at hx
    · rename_i hl
      refine wordsG_good r _ (fun d hd => ?_) x hx
      rcases List.mem_append.1 hd with hd | hd
      · exact hw d hd
      · rw [List.mem_singleton] at hd; subst hd; exact ⟨fold_letter hl, fold_fold c⟩
    · split at hx
      · exact wordsG_good r [] (by simp) x hx
      · rename_i hne
        rcases List.mem_cons.1 hx with hx | hx
        · subst hx; exact ⟨hne, hw⟩
        · exact wordsG_good r [] (by simp) x hx
theorem words_good (l : List Int) : ∀ x ∈ words l, x ≠ [] ∧ ∀ c ∈ x, letter c = true ∧ fold c = c := wordsG_good _ [] (by simp)
theorem word_alone : ∀ (r w : List Int), w ≠ [] ∨ r ≠ [] → (∀ c ∈ r, letter c = true ∧ fold c = c) → wordsG w (r ++ [32]) = [w ++ r]
  | [], w, h, _ => by
    have hw : w ≠ [] := h.resolve_right (by simp)
    simp [wordsG, letter32, hw]
  | c :: r, w, h, hr => by
    have hc := hr c (List.mem_cons_self ..)
    rw [List.cons_append, wordsG, if_pos hc.1, word_alone r _ (.inl (by simp)) (fun d hd => hr d (List.mem_cons_of_mem _ hd)), hc.2]; simp
theorem good_allW {w : List Int} (h : ∀ c ∈ w, letter c = true ∧ fold c = c) : allW w = true := allW_iff.2 fun c hc => letter_whole (h c hc).1
theorem term_self {w : List Int} (hw : w ≠ []) (h : ∀ c ∈ w, letter c = true ∧ fold c = c) (hf : (termB w).length ≤ 64) : termE (termB w) = 0 ∧ termS (termB w) = termB w := by
  obtain ⟨d1, d2⟩ := dec_enc (good_allW h)
  have hwd : words (decL (termB w)) = [w] := by
    unfold termB; rw [d1]; exact word_alone w [] (.inr hw) h
  obtain ⟨t1, t2⟩ := tok_yes (s := termB w) (by omega) d2 hwd (by unfold fits; simp [hf])
  obtain ⟨r1, r2⟩ := term_one t2 (by rw [t1]; rfl)
  exact ⟨r2, by rw [r1, t1]; rfl⟩
theorem fits_at {ws : List (List Int)} (h : fits ws = true) {j : Nat} (hj : j < ws.length) : (termB (ws.getD j [])).length ≤ 64 := by
  have := List.all_eq_true.1 h (ws.getD j []) (by rw [List.getD_eq_getElem?_getD, List.getElem?_eq_getElem hj]; exact List.getElem_mem hj)
  simpa using this
theorem getD_mem' {ws : List (List Int)} {j : Nat} (hj : j < ws.length) : ws.getD j [] ∈ ws := by
  rw [List.getD_eq_getElem?_getD, List.getElem?_eq_getElem hj]; exact List.getElem_mem hj
/-- what is asked of a text's term -/
theorem twice_at {s : List UInt8} (h : tokE s = 0) {j : Nat} (hj : j < (tokL s).length) :
    termE ((tokL s).getD j (Tok.mk [] 0)).t = 0 ∧ termS ((tokL s).getD j (Tok.mk [] 0)).t = ((tokL s).getD j (Tok.mk [] 0)).t ∧ ((tokL s).getD j (Tok.mk [] 0)).a = (j : Int) ∧
      0 < ((tokL s).getD j (Tok.mk [] 0)).t.length ∧ ((tokL s).getD j (Tok.mk [] 0)).t.length ≤ 64 := by
  obtain ⟨_, _, hf, hz⟩ := tok_zero h
  rw [hz, toks_len] at hj
  have hg := words_good (decL s) _ (getD_mem' hj)
  have hle := fits_at hf hj
  rw [hz, toks_get hj]
  obtain ⟨r1, r2⟩ := term_self hg.1 hg.2 hle
  refine ⟨r1, r2, rfl, ?_, hle⟩
  show 0 < (termB _).length
  unfold termB
  rw [bytesOf_len]
  cases hw : (words (decL s)).getD j [] with
  | nil => exact absurd hw hg.1
  | cons c w => rw [enc_cons, List.length_append]; have := one_len c; omega
theorem wordsG_fold : ∀ (r w : List Int), wordsG w (r.map fold ++ [32]) = wordsG w (r ++ [32])
  | [], w => rfl
  | c :: r, w => by
    simp only [List.map_cons, List.cons_append, wordsG, letter_fold_eq, fold_fold]
    split
    · exact wordsG_fold r _
    · split
      · exact wordsG_fold r _
      · rw [wordsG_fold r []]
theorem enc_fold_len : ∀ l : List Int, (enc (l.map fold)).length ≤ (enc l).length
  | [] => by simp [enc]
  | c :: l => by
    rw [List.map_cons, enc_cons, enc_cons, List.length_append, List.length_append]
    have := one_fold c; have := enc_fold_len l; omega
theorem allW_fold {l : List Int} (h : allW l = true) : allW (l.map fold) = true := by
  rw [allW_iff] at *
  intro c hc
  obtain ⟨d, hd, rfl⟩ := List.mem_map.1 hc
  exact fold_whole (h d hd)
theorem folded_same {s : List UInt8} (h : tokE s = 0) : decE s = 0 ∧ encE (foldL s) = 0 ∧ tokE (encT (foldL s)) = 0 ∧ tokL s = tokL (encT (foldL s)) := by
  obtain ⟨h1, h2, hf, hz⟩ := tok_zero h
  obtain ⟨wa, ea⟩ := of_dec h2
  have hw : allW (foldL s) = true := allW_fold wa
  obtain ⟨d1, d2⟩ := dec_enc hw
  have e : encT (foldL s) = bytesOf (enc (foldL s)) := by unfold encT; rw [if_pos hw]
  have hl : (bytesOf (enc (foldL s))).length ≤ 4096 := by
    rw [bytesOf_len]
    have := enc_fold_len (decL s)
    have e2 := congrArg List.length ea
    rw [bytesOf_len] at e2
    unfold foldL; omega
  have hwd : words (decL (bytesOf (enc (foldL s)))) = words (decL s) := by rw [d1]; exact wordsG_fold _ _
  obtain ⟨t1, t2⟩ := tok_yes (s := bytesOf (enc (foldL s))) (by omega) d2 hwd hf
  refine ⟨h2, by unfold encE; rw [if_pos hw], by rw [e]; exact t2, by rw [e, t1, hz]⟩
theorem tok_not {s : List UInt8} (h : tokE s ≠ 0) : tokL s = [] := by
  unfold tokE at h; unfold tokL
  split
  · rfl
  · rename_i h1
    rw [if_neg h1] at h
    split
    · rename_i hf
      rw [hf] at h
      by_cases h2 : decE s ≠ 0
      · rw [dec_err h2]; rfl
      · rw [if_neg h2] at h; simp at h
    · rfl
end Go.TokP
