/-
  What the laws about documents' pieces and buffers say, plainly. No condition beyond those that each theorem names.
-/
import Derived.Test.YtcdcehjilneifaaPcT
namespace Go.PcP
open Go.Gw Go.UtfP Go.TokP
set_option linter.unusedVariables false
set_option linter.unusedSimpArgs false
theorem wordsG_ne : ∀ (r w : List Int), ∀ x ∈ wordsG w r, x ≠ []
  | [], w => by intro x hx; cases hx
  | c :: r, w => by
    intro x hx
    unfold wordsG at hx
    split at hx
    · exact wordsG_ne r _ x hx
    · split at hx
      · exact wordsG_ne r _ x hx
      · rename_i h
        rcases List.mem_cons.1 hx with g | g
        · rw [g]; exact h
        · exact wordsG_ne r _ x g
theorem wordsG_few : ∀ (r w : List Int), (wordsG w r).length ≤ r.countP letter + (if w = [] then 0 else 1)
  | [], w => by simp [wordsG]
  | c :: r, w => by
    unfold wordsG
    split
    · rename_i h
      have := wordsG_few r (w ++ [fold c])
      rw [if_neg (by simp)] at this
      rw [List.countP_cons_of_pos (by exact h)]; omega
    · rename_i h
      have := wordsG_few r []
      rw [if_pos rfl] at this
      rw [List.countP_cons_of_neg (by exact h)]
      split
      · omega
      · rw [List.length_cons]; omega
theorem words_few (l : List Int) : (words l).length ≤ l.length := by
  have := wordsG_few (l ++ [32]) []
  rw [if_pos rfl, List.countP_append, List.countP_cons_of_neg (by rw [letter32]; simp)] at this
  have h2 : l.countP letter ≤ l.length := List.countP_le_length
  unfold words
  simp only [List.countP_nil] at this
  omega
theorem toksF_good : ∀ (n : Nat) (ws : List (List Int)), (∀ w ∈ ws, w ≠ []) → fits ws = true → tokG n (toksF n ws) = true
  | _, [], _, _ => rfl
  | n, w :: ws, h, hf => by
    unfold fits at hf
    rw [List.all_cons, Bool.and_eq_true] at hf
    have hw : 1 ≤ (termB w).length := by
      unfold termB
      rw [bytesOf_len]
      cases w with
      | nil => exact absurd rfl (h _ (List.mem_cons_self ..))
      | cons c l => rw [enc_cons, List.length_append]; have := (Go.UtfP.one_len c).1; omega
    show (decide ((n : Int) = (n : Int)) && decide (1 ≤ (termB w).length) && decide ((termB w).length ≤ 64) && tokG (n + 1) (toksF (n + 1) ws)) = true
    rw [decide_eq_true rfl, decide_eq_true hw, hf.1, toksF_good (n + 1) ws (fun x hx => h x (List.mem_cons_of_mem _ hx)) hf.2]; rfl
theorem tok_good {s : List UInt8} (h : tokE s = 0) : (tokL s).length ≤ 4096 ∧ tokG 0 (tokL s) = true := by
  have h1 : ¬ 4096 < s.length := fun g => by have := (tok_long g).2; omega
  have h2 : decE s = 0 := by
    by_cases g : decE s = 0
    · exact g
    · have := (tok_bad h1 g).2; omega
  have h3 : fits (words (decL s)) = true := by
    cases g : fits (words (decL s)) with
    | true => rfl
    | false => have := (tok_no h1 h2 g).2; omega
  rw [(tok_yes h1 h2 rfl h3).1]
  refine ⟨?_, toksF_good 0 _ (fun w hw => wordsG_ne _ _ w hw) h3⟩
  rw [toks_len]
  have := words_few (decL s)
  have := @decL_len s
  omega
theorem tokL_small (s : List UInt8) : (tokL s).length ≤ 2000000 := by
  unfold tokL
  split
  · simp
  · split
    · rw [toks_len]
      have := words_few (decL s)
      have := @decL_len s
      omega
    · simp
section
variable {d : Dc}
theorem fields_iff : ∀ {l : List Fd} {seen : List (List UInt8)}, fieldsE seen l = 0 ↔ (∀ f ∈ l, nameP f.name = true ∧ f.name ∉ seen ∧ tokE f.text = 0) ∧ (l.map Fd.name).Nodup
  | [], seen => by simp [fieldsE]
  | f :: r, seen => by
    have ih := @fields_iff r (seen ++ [f.name])
    have e : fieldsE seen (f :: r) = if freshE seen f.name ≠ 0 then freshE seen f.name else if tokE f.text ≠ 0 then tokE f.text else fieldsE (seen ++ [f.name]) r := rfl
    rw [e]
    by_cases h1 : freshE seen f.name = 0
    · have h1' := fresh_zero h1
      rw [if_neg (by simpa using h1)]
      by_cases h2 : tokE f.text = 0
      · rw [if_neg (by simpa using h2), ih]
        simp only [List.mem_cons, List.map_cons, List.nodup_cons, List.mem_append, List.mem_singleton, List.mem_map, forall_eq_or_imp]
        constructor
        · rintro ⟨h3, h4⟩
          refine ⟨⟨⟨h1'.1, h1'.2, h2⟩, fun g hg => ⟨(h3 g hg).1, fun z => (h3 g hg).2.1 (.inl z), (h3 g hg).2.2⟩⟩, ?_, h4⟩
          rintro ⟨g, hg, he⟩
          exact (h3 g hg).2.1 (.inr (by simpa using he))
        · rintro ⟨⟨_, h3⟩, h4, h5⟩
          refine ⟨fun g hg => ⟨(h3 g hg).1, ?_, (h3 g hg).2.2⟩, h5⟩
          rintro (z | z)
          · exact (h3 g hg).2.1 z
          · exact h4 ⟨g, hg, by simpa using z⟩
      · rw [if_pos h2]
        exact ⟨fun z => absurd z h2, fun z => absurd (z.1 f (List.mem_cons_self ..)).2.2 h2⟩
    · rw [if_pos h1]
      refine ⟨fun z => absurd z h1, fun z => ?_⟩
      have := z.1 f (List.mem_cons_self ..)
      exact absurd (fresh_ok this.1 (by rw [Bool.eq_false_iff]; intro q; exact this.2.1 (List.contains_iff_mem.1 q))) h1
theorem nums_iff : ∀ {l : List Nm} {seen : List (List UInt8)}, numsE seen l = 0 ↔ (∀ f ∈ l, nameP f.name = true ∧ f.name ∉ seen) ∧ (l.map Nm.name).Nodup
  | [], seen => by simp [numsE]
  | f :: r, seen => by
    have ih := @nums_iff r (seen ++ [f.name])
    have e : numsE seen (f :: r) = if freshE seen f.name ≠ 0 then freshE seen f.name else numsE (seen ++ [f.name]) r := rfl
    rw [e]
    by_cases h1 : freshE seen f.name = 0
    · have h1' := fresh_zero h1
      rw [if_neg (by simpa using h1), ih]
      simp only [List.mem_cons, List.map_cons, List.nodup_cons, List.mem_append, List.mem_singleton, List.mem_map, forall_eq_or_imp]
      constructor
      · rintro ⟨h3, h4⟩
        refine ⟨⟨⟨h1'.1, h1'.2⟩, fun g hg => ⟨(h3 g hg).1, fun z => (h3 g hg).2 (.inl z)⟩⟩, ?_, h4⟩
        rintro ⟨g, hg, he⟩
        exact (h3 g hg).2 (.inr (by simpa using he))
      · rintro ⟨⟨_, h3⟩, h4, h5⟩
        refine ⟨fun g hg => ⟨(h3 g hg).1, ?_⟩, h5⟩
        rintro (z | z)
        · exact (h3 g hg).2 z
        · exact h4 ⟨g, hg, by simpa using z⟩
    · rw [if_pos h1]
      refine ⟨fun z => absurd z h1, fun z => ?_⟩
      have := z.1 f (List.mem_cons_self ..)
      exact absurd (fresh_ok this.1 (by rw [Bool.eq_false_iff]; intro q; exact this.2 (List.contains_iff_mem.1 q))) h1
theorem doc_iff : docE d = 0 ↔ fitD d ∧ fieldsE [] d.fields = 0 ∧ numsE [] d.nums = 0 := by
  unfold docE
  split
  · rename_i h; exact ⟨fun z => (by cases z), fun z => absurd h z.1.1⟩
  · rename_i h
    split
    · rename_i k
      refine ⟨fun z => (by cases z), fun z => ?_⟩
      have := z.1
      omega
    · rename_i k
      split
      · rename_i g; exact ⟨fun z => absurd z g, fun z => absurd z.2.1 g⟩
      · rename_i g
        refine ⟨fun z => ⟨⟨h, by omega, by omega, by omega⟩, by simpa using g, z⟩, fun z => z.2.2⟩
theorem rises_of : ∀ {l : List (List UInt8)} {p : Option (List UInt8)}, (∀ x ∈ l, nameP x = true) → (∀ q, p = some q → ∀ x ∈ l, Op.bytesLess q x = true) → l.Pairwise (fun a b => Op.bytesLess a b = true) → risesF p l = true
  | [], _, _, _, _ => rfl
  | n :: r, p, h1, h2, h3 => by
    have h3' := List.pairwise_cons.1 h3
    have hr := rises_of (l := r) (p := some n) (fun x hx => h1 x (List.mem_cons_of_mem _ hx)) (fun q hq x hx => by cases hq; exact h3'.1 x hx) h3'.2
    have hn := h1 n (List.mem_cons_self ..)
    cases p with
    | none =>
      show (nameP n && true && risesF (some n) r) = true
      rw [hn, hr]; rfl
    | some q =>
      show (nameP n && Op.bytesLess q n && risesF (some n) r) = true
      rw [hn, hr, h2 q rfl n (List.mem_cons_self ..)]; rfl
theorem names_isort {β : Type} {key : β → List UInt8} {l : List β} (h1 : ∀ x ∈ l, nameP (key x) = true) (h2 : (l.map key).Nodup) (h3 : l.length ≤ 8) : namesP ((isort key l).map key) = true := by
  refine namesP_yes (rises_of (fun x hx => ?_) (fun q hq => by cases hq) ?_) (by rw [List.length_map, isort_len]; exact h3)
  · obtain ⟨y, hy, rfl⟩ := List.mem_map.1 hx
    exact h1 y ((isort_perm _).mem_iff.1 hy)
  · rw [List.pairwise_map]; exact isort_rise l h2
theorem nameP_len {s : List UInt8} (h : nameP s = true) : s.length ≤ 16 := by
  unfold nameP at h; rw [Bool.and_eq_true] at h; have := of_decide_eq_true h.1; omega
/-- the pieces of a document may be, just where it is taken to pieces -/
theorem doc_check : checkP (docP d) = decide (docE d = 0) := by
  by_cases h : docE d = 0
  · rw [decide_eq_true h, doc_ok h]
    obtain ⟨hD, hF, hN⟩ := doc_iff.1 h
    have hF' := fields_iff.1 hF; have hN' := nums_iff.1 hN
    refine check_yes ⟨?_, hD.2.1⟩ ?_ (names_isort (fun x hx => (hN'.1 x hx).1) hN'.2 hD.2.2.2) (names_isort (fun x hx => ?_) ?_ (by rw [List.length_map]; exact hD.2.2.1))
    · exact Nat.pos_of_ne_zero (fun z => hD.1 (List.eq_nil_of_length_eq_zero z))
    · rw [List.all_eq_true]
      intro x hx
      obtain ⟨f, hf, rfl⟩ := List.mem_map.1 ((isort_perm _).mem_iff.1 hx)
      have := tok_good (hF'.1 f hf).2.2
      unfold wordG
      rw [decide_eq_true (show (wordOf f).toks.length ≤ 4096 from this.1)]
      exact this.2
    · obtain ⟨f, hf, rfl⟩ := List.mem_map.1 hx
      exact (hF'.1 f hf).1
    · rw [List.map_map]; exact hF'.2
  · rw [decide_eq_false h, doc_bad h]; rfl
theorem docP_small : SmallP (docP d) := by
  by_cases h : docE d = 0
  · rw [doc_ok h]
    obtain ⟨hD, _⟩ := doc_iff.1 h
    refine ⟨?_, ?_, ?_⟩
    · show (isort Nm.name d.nums).length ≤ _; rw [isort_len]; have := hD.2.2.2; omega
    · show (isort Wd.name (d.fields.map wordOf)).length ≤ _; rw [isort_len, List.length_map]; have := hD.2.2.1; omega
    · intro x hx
      obtain ⟨f, hf, rfl⟩ := List.mem_map.1 ((isort_perm _).mem_iff.1 hx)
      exact Nat.le_trans (tokL_small f.text) (by decide)
  · rw [doc_bad h]; exact ⟨Nat.zero_le _, Nat.zero_le _, fun x hx => by cases hx⟩
theorem docP_smalln : SmallN (docP d) := by
  by_cases h : docE d = 0
  · rw [doc_ok h]
    obtain ⟨hD, hF, hN⟩ := doc_iff.1 h
    refine ⟨fun x hx => ?_, fun x hx => ?_⟩
    · have := nameP_len ((nums_iff.1 hN).1 x ((isort_perm _).mem_iff.1 hx)).1; omega
    · obtain ⟨f, hf, rfl⟩ := List.mem_map.1 ((isort_perm _).mem_iff.1 hx)
      have := nameP_len ((fields_iff.1 hF).1 f hf).1
      show f.name.length ≤ _; omega
  · rw [doc_bad h]; exact ⟨fun x hx => (by cases hx), fun x hx => (by cases hx)⟩
def turnD (d : Dc) : Dc := ⟨d.key, d.fields.reverse, d.nums.reverse⟩
theorem turn_zero : docE (turnD d) = 0 ↔ docE d = 0 := by
  rw [doc_iff, doc_iff, fields_iff, fields_iff, nums_iff, nums_iff]
  simp only [turnD, fitD, List.length_reverse, List.mem_reverse, List.map_reverse, (List.reverse_perm _).nodup_iff]
theorem turn_doc : docP (turnD d) = docP d := by
  by_cases h : docE d = 0
  · rw [doc_ok h, doc_ok (turn_zero.2 h)]
    obtain ⟨hD, hF, hN⟩ := doc_iff.1 h
    have e1 : isort Nm.name (turnD d).nums = isort Nm.name d.nums := (isort_congr (nums_iff.1 hN).2 (List.reverse_perm _).symm).symm
    have e2 : isort Wd.name ((turnD d).fields.map wordOf) = isort Wd.name (d.fields.map wordOf) := (isort_congr (by rw [List.map_map]; exact (fields_iff.1 hF).2) (((List.reverse_perm d.fields).symm).map wordOf)).symm
    rw [e1, e2]; rfl
  · rw [doc_bad h, doc_bad (fun z => h (turn_zero.1 z))]
end
theorem rev_snoc {α : Type} {l : List α} {k m : Nat} (z : α) (hm : m + 1 = k) (hk : k ≤ l.length) : l.reverse.take (l.length - k) ++ [l.getD m z] = l.reverse.take (l.length - m) := by
  have e : l.length - m = (l.length - k) + 1 := by omega
  rw [e, take_snoc' z (by rw [List.length_reverse]; omega)]
  congr 2
  rw [List.getD_eq_getElem?_getD, List.getD_eq_getElem?_getD, List.getElem?_reverse (by omega)]
  congr 2
  omega
theorem turn_beq {d : Dc} : (docE (turnD d) == 0) = (docE d == 0) := by
  by_cases h : docE d = 0
  · rw [beq_iff_eq.2 h, beq_iff_eq.2 (turn_zero.2 h)]
  · rw [beq_eq_false_iff_ne.2 h, beq_eq_false_iff_ne.2 (fun z => h (turn_zero.1 z))]
theorem doc_keyeq {d : Dc} (h : docE d = 0) : (docP d).key = d.key := by rw [doc_ok h]
/-! ### keys -/
section
variable {ps : List Pc} {key : List UInt8} {p : Pc}
def NdK (ps : List Pc) : Prop := (ps.map Pc.key).Nodup
theorem keyAt_lt : keyAt ps key < ps.length ↔ key ∈ ps.map Pc.key := by
  unfold keyAt
  rw [List.findIdx_lt_length]
  simp only [decide_eq_true_eq, List.mem_map]
theorem has_mem : hasK ps key = decide (key ∈ ps.map Pc.key) := by
  unfold hasK; exact decide_eq_decide.2 keyAt_lt
theorem drop_wo : ∀ {ps : List Pc}, NdK ps → dropK key ps = woK key ps
  | [], _ => rfl
  | q :: r, h => by
    have h' := List.nodup_cons.1 (show (q.key :: r.map Pc.key).Nodup from h)
    unfold dropK woK keyAt
    rw [List.findIdx_cons]
    by_cases e : q.key = key
    · rw [decide_eq_true e, cond_true, List.eraseIdx_cons_zero, List.filter_cons_of_neg (by rw [decide_eq_true e]; simp)]
      symm
      rw [List.filter_eq_self]
      intro a ha
      rw [decide_eq_false (fun z => h'.1 (by rw [e, ← z]; exact List.mem_map_of_mem ha))]; rfl
    · rw [decide_eq_false e, cond_false, List.eraseIdx_cons_succ, List.filter_cons_of_pos (by rw [decide_eq_false e]; rfl)]
      have := drop_wo (ps := r) h'.2
      unfold dropK woK keyAt at this
      rw [this]
theorem wo_keys : (woK key ps).map Pc.key = (ps.map Pc.key).filter fun k => !decide (k = key) := by
  unfold woK; rw [List.filter_map]; rfl
theorem wo_nd (h : NdK ps) : NdK (woK key ps) := by unfold NdK; rw [wo_keys]; exact List.Pairwise.filter _ h
theorem wo_notin : key ∉ (woK key ps).map Pc.key := by rw [wo_keys]; intro h; have := (List.mem_filter.1 h).2; simp at this
theorem wo_has : decide ((woK key ps).length < ps.length) = hasK ps key := by
  rw [has_mem]
  refine decide_eq_decide.2 ?_
  unfold woK
  have h1 : (ps.filter fun p : Pc => !decide (p.key = key)).length = ps.countP fun p : Pc => !decide (p.key = key) := List.countP_eq_length_filter.symm
  rw [h1]
  have h2 : ps.countP (fun p : Pc => !decide (p.key = key)) ≤ ps.length := List.countP_le_length
  have h3 : ps.countP (fun p : Pc => !decide (p.key = key)) = ps.length ↔ ∀ a ∈ ps, (!decide (a.key = key)) = true := List.countP_eq_length
  constructor
  · intro h
    by_cases g : key ∈ ps.map Pc.key
    · exact g
    · exfalso
      have := h3.2 (fun a ha => by
        rw [decide_eq_false (fun z => g (by rw [← z]; exact List.mem_map_of_mem ha))]; rfl)
      omega
  · intro h
    rcases Nat.lt_or_ge (ps.countP (fun p : Pc => !decide (p.key = key))) ps.length with g | g
    · exact g
    · exfalso
      obtain ⟨a, ha, he⟩ := List.mem_map.1 h
      have := h3.1 (by omega) a ha
      rw [decide_eq_true he] at this
      cases this
theorem put_eq (h : NdK ps) : putK p ps = if checkP p = true then woK p.key ps ++ [p] else ps := by unfold putK; rw [drop_wo h]
theorem put_nd (h : NdK ps) : NdK (putK p ps) := by
  rw [put_eq h]
  split
  · unfold NdK
    rw [List.map_append, List.nodup_append]
    refine ⟨wo_nd h, by simp, fun a ha b hb e => ?_⟩
    simp at hb; subst hb; exact wo_notin (e ▸ ha)
  · exact h
theorem wo_fresh (h : key ∉ ps.map Pc.key) : woK key ps = ps := by
  unfold woK
  rw [List.filter_eq_self]
  intro a ha
  rw [decide_eq_false (fun z => h (by rw [← z]; exact List.mem_map_of_mem ha))]; rfl
theorem wo_len1 (h : NdK ps) (hm : key ∈ ps.map Pc.key) : (woK key ps).length + 1 = ps.length := by
  rw [← drop_wo h]
  unfold dropK
  rw [List.length_eraseIdx_of_lt (keyAt_lt.2 hm)]
  have := keyAt_lt.2 hm
  omega
theorem nd_nil : NdK [] := List.nodup_nil
theorem has_eq {Z Y : List PZ} {key : List UInt8} (h : Y.map PZ.pc = Z.map PZ.pc) : hasK (Z.map PZ.pc) key = decide ((((woZ key Y).length : Nat) : Int) < ((Y.length : Nat) : Int)) := by
  rw [← h, ← wo_has, ← woZ_pc, List.length_map, List.length_map]
  exact decide_eq_decide.2 (by omega)
/-- a play: what is held is what the document says -/
structure PlayI (Z Y : List PZ) (n : Nat) : Prop where
  eq : Y.map PZ.pc = Z.map PZ.pc
  nd : NdK (Z.map PZ.pc)
  sm : ∀ q ∈ Z.map PZ.pc, SmallP q
  few : Z.length ≤ n
theorem play_nil : PlayI [] [] 0 := ⟨rfl, nd_nil, fun q hq => (by cases hq), Nat.le_refl _⟩
theorem play_on {Z Y : List PZ} {n : Nat} (h : PlayI Z Y n) : PlayI Z Y (n + 1) := ⟨h.eq, h.nd, h.sm, Nat.le_succ_of_le h.few⟩
theorem play_drop {Z Y : List PZ} {n : Nat} {key : List UInt8} (h : PlayI Z Y n) : PlayI (dropZ key Z) (woZ key Y) (n + 1) := by
  refine ⟨?_, ?_, fun q hq => ?_, ?_⟩
  · rw [woZ_pc, dropZ_pc, drop_wo h.nd, h.eq]
  · rw [dropZ_pc, drop_wo h.nd]; exact wo_nd h.nd
  · obtain ⟨z, hz, rfl⟩ := List.mem_map.1 hq
    exact h.sm _ (List.mem_map_of_mem (dropZ_sub z hz))
  · exact Nat.le_trans (List.eraseIdx_sublist Z _).length_le (Nat.le_succ_of_le h.few)
theorem play_put {Z Z2 Y : List PZ} {n : Nat} {p p2 : Pc} {nv wv : Value} {key : List UInt8} (h : PlayI Z Y n) (e : p2 = p) (hc : checkP p = true) (hk : key = p.key) (hs : SmallP p) (hZ : Z2.map PZ.pc = putK p2 (Z.map PZ.pc)) : PlayI Z2 (woZ key Y ++ [PZ.mk p nv wv]) (n + 1) := by
  subst e; subst hk
  have e1 : putK p2 (Z.map PZ.pc) = woK p2.key (Z.map PZ.pc) ++ [p2] := by rw [put_eq h.nd, if_pos hc]
  refine ⟨?_, ?_, fun q hq => ?_, ?_⟩
  · rw [hZ, e1, List.map_append, woZ_pc, h.eq]; rfl
  · rw [hZ]; exact put_nd h.nd
  · rw [hZ, e1] at hq
    rcases List.mem_append.1 hq with g | g
    · exact h.sm q (List.mem_filter.1 g).1
    · rw [List.mem_singleton.1 g]; exact hs
  · have h1 := congrArg List.length hZ
    rw [e1, List.length_map, List.length_append] at h1
    have h2 : (woK p2.key (Z.map PZ.pc)).length ≤ (Z.map PZ.pc).length := List.length_filter_le _ _
    rw [List.length_map] at h2
    have := h.few
    simp only [List.length_singleton] at h1
    omega
theorem play_same {Z Z2 Y : List PZ} {n : Nat} {p p2 : Pc} (h : PlayI Z Y n) (e : p2 = p) (hc : checkP p = false) (hZ : Z2.map PZ.pc = putK p2 (Z.map PZ.pc)) : PlayI Z2 Y (n + 1) := by
  subst e
  have e1 : putK p2 (Z.map PZ.pc) = Z.map PZ.pc := by unfold putK; rw [if_neg (by rw [hc]; simp)]
  rw [e1] at hZ
  refine ⟨h.eq.trans hZ.symm, by rw [hZ]; exact h.nd, by rw [hZ]; exact h.sm, ?_⟩
  have := congrArg List.length hZ
  rw [List.length_map, List.length_map] at this
  have := h.few
  omega
theorem play_len {Z Y : List PZ} {n : Nat} (h : PlayI Z Y n) : Y.length = Z.length := by have := congrArg List.length h.eq; rwa [List.length_map, List.length_map] at this
/-- what a buffer of documents holds in the law of order: so many, one of them of this key -/
structure OrdI (key : List UInt8) (ps : List Pc) (n : Nat) : Prop where
  nd : NdK ps
  len : ps.length = n
  has : key ∈ ps.map Pc.key
  sm : ∀ q ∈ ps, SmallP q
theorem ord_first (h : checkP p = true) (hs : SmallP p) : OrdI p.key (putK p []) 1 := by
  have e : putK p [] = [p] := by unfold putK; rw [if_pos h]; rfl
  rw [e]
  exact ⟨by unfold NdK; simp, rfl, by simp, fun q hq => by rw [List.mem_singleton.1 hq]; exact hs⟩
theorem ord_more {n : Nat} (h : OrdI key ps n) (hn : hasK ps p.key = false) (hc : checkP p = true) (hs : SmallP p) : OrdI key (putK p ps) (n + 1) := by
  rw [has_mem] at hn
  have hn := of_decide_eq_false hn
  have e : putK p ps = ps ++ [p] := by rw [put_eq h.nd, if_pos hc, wo_fresh hn]
  refine ⟨put_nd h.nd, by rw [e, List.length_append, h.len]; rfl, by rw [e, List.map_append]; exact List.mem_append_left _ h.has, fun q hq => ?_⟩
  rw [e] at hq
  rcases List.mem_append.1 hq with g | g
  · exact h.sm q g
  · rw [List.mem_singleton.1 g]; exact hs
theorem ord_same {n : Nat} (h : OrdI key ps n) (hc : checkP p = false) : OrdI key (putK p ps) n := by
  have e : putK p ps = ps := by unfold putK; rw [if_neg (by rw [hc]; simp)]
  rw [e]; exact h
/-- behind the last Put -/
structure OrdE (key : List UInt8) (ps : List Pc) (n : Nat) (p : Pc) : Prop where
  nd : NdK ps
  len : ps.length = n
  has : key ∈ ps.map Pc.key
  pos : 0 < n
  last : ps.getD (n - 1) pcz = p
  sm : ∀ q ∈ ps, SmallP q
theorem ord_end {n : Nat} (h : OrdI p.key ps n) (hc : checkP p = true) (hs : SmallP p) : OrdE p.key (putK p ps) n p := by
  have e : putK p ps = woK p.key ps ++ [p] := by rw [put_eq h.nd, if_pos hc]
  have hl := wo_len1 h.nd h.has
  have h2 := h.len
  refine ⟨put_nd h.nd, by rw [e, List.length_append]; simp only [List.length_singleton]; omega, by rw [e, List.map_append]; exact List.mem_append_right _ (by simp), by omega, ?_, fun q hq => ?_⟩
  rotate_left
  · rw [e] at hq
    rcases List.mem_append.1 hq with g | g
    · exact h.sm q (List.mem_filter.1 g).1
    · rw [List.mem_singleton.1 g]; exact hs
  rw [e, List.getD_eq_getElem?_getD, List.getElem?_append_right (by omega), show n - 1 - (woK p.key ps).length = 0 by omega]; rfl
theorem ord_has {n : Nat} (h : OrdE key ps n p) : hasK ps key = true := by rw [has_mem]; exact decide_eq_true h.has
theorem ord_gone {n : Nat} (h : OrdE key ps n p) : hasK (dropK key ps) key = false := by
  rw [has_mem, drop_wo h.nd]; exact decide_eq_false wo_notin
theorem ord_left {n : Nat} (h : OrdE key ps n p) : (dropK key (dropK key ps)).length + 1 = n := by
  have h1 := wo_nd (key := key) h.nd
  rw [drop_wo h.nd, drop_wo h1, wo_fresh wo_notin]
  have := wo_len1 h.nd h.has
  have := h.len
  omega
end
/-- a document that reads, of lists that are not great -/
structure DocR (W : World) (d : Dc) (fv nv : Value) : Prop where
  f : Rd W 2 fv d.fields.length (recs fdC d.fields)
  n : Rd W 2 nv d.nums.length (recs nmC d.nums)
  lf : d.fields.length ≤ 4398046510976
  ln : d.nums.length ≤ 5864062014634
  nf : ∀ x ∈ d.fields, x.name.length ≤ 140737488351232
  nn : ∀ x ∈ d.nums, x.name.length ≤ 140737488351232
structure PieR (W : World) (p : Pc) (nv wv : Value) : Prop where
  r : RdP W p nv wv
  ln : p.nums.length ≤ 5864062014634
  lw : p.words.length ≤ 3518437208780
  lt : ∀ x ∈ p.words, x.toks.length ≤ 5864062014634
  nn : ∀ x ∈ p.nums, x.name.length ≤ 140737488351232
  nw : ∀ x ∈ p.words, x.name.length ≤ 140737488351232
/-- a step of a script: a number, a document, pieces -/
structure St where
  kind : Int
  doc : Dc
  fv : Value
  nv : Value
  pc : Pc
  pn : Value
  pw : Value
def stz : St := ⟨0, ⟨[], [], []⟩, .slice none 0 0, .slice none 0 0, ⟨[], [], []⟩, .slice none 0 0, .slice none 0 0⟩
def stC (x : St) : List Value := [.int .i64 x.kind, .string (sb x.doc.key), x.fv, x.nv, .string (sb x.pc.key), x.pn, x.pw]
theorem stC_len (x : St) : (stC x).length = 7 := rfl
def StR (W : World) (x : St) : Prop := DocR W x.doc x.fv x.nv ∧ PieR W x.pc x.pn x.pw
end Go.PcP
