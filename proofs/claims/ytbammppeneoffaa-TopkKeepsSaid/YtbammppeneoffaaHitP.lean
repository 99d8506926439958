/-
  Hits, their order, the sorted list of what was offered, the heap of the best. No condition beyond those that each theorem names.
-/
import Derived.Test.YtbammppeneoffaaRec
namespace Go.HitP
open Go.Gw
set_option linter.unusedVariables false
set_option linter.unusedSimpArgs false
structure Hit where
  key : List UInt8
  score : Int
deriving DecidableEq
def hz : Hit := ⟨[], 0⟩
def hitC (h : Hit) : List Value := [.string (sb h.key), .int .i64 h.score]
theorem hitC_len (h : Hit) : (hitC h).length = 2 := rfl
theorem hitC_one (h : Hit) : ∀ u ∈ hitC h, u.oneCell' = true := by
  intro u hu; simp [hitC] at hu; rcases hu with rfl | rfl <;> rfl
/-! ### texts, by their bytes -/
theorem bless_irrefl : ∀ a : List UInt8, Op.bytesLess a a = false
  | [] => rfl
  | x :: a => by
    have h : ¬ x < x := by rw [UInt8.lt_iff_toNat_lt]; omega
    simp [Op.bytesLess, bless_irrefl a]
theorem bless_trans : ∀ {a b c : List UInt8}, Op.bytesLess a b = true → Op.bytesLess b c = true → Op.bytesLess a c = true
  | _, [], _, h, _ => by simp [Op.bytesLess] at h
  | _, _ :: _, [], _, h => by simp [Op.bytesLess] at h
  | [], _ :: _, _ :: _, _, _ => rfl
  | x :: a, y :: b, z :: c, h, k => by
    simp only [Op.bytesLess, Bool.or_eq_true, Bool.and_eq_true, decide_eq_true_eq, beq_iff_eq, UInt8.lt_iff_toNat_lt] at h k ⊢
    rcases h with h | ⟨h1, h2⟩
    · rcases k with k | ⟨k1, k2⟩
      · left; omega
      · subst k1; left; exact h
    · subst h1
      rcases k with k | ⟨k1, k2⟩
      · left; exact k
      · right; exact ⟨k1, bless_trans h2 k2⟩
theorem bless_tot : ∀ {a b : List UInt8}, Op.bytesLess a b = false → Op.bytesLess b a = false → a = b
  | [], [], _, _ => rfl
  | [], _ :: _, h, _ => by simp [Op.bytesLess] at h
  | _ :: _, [], _, h => by simp [Op.bytesLess] at h
  | x :: a, y :: b, h, k => by
    simp only [Op.bytesLess, Bool.or_eq_false_iff, Bool.and_eq_false_iff, decide_eq_false_iff_not, beq_eq_false_iff_ne, UInt8.lt_iff_toNat_lt] at h k
    have e : x = y := UInt8.toNat.inj (by omega)
    subst e
    have h2 : Op.bytesLess a b = false := by rcases h.2 with z | z; exact absurd rfl z; exact z
    have k2 : Op.bytesLess b a = false := by rcases k.2 with z | z; exact absurd rfl z; exact z
    rw [bless_tot h2 k2]
def better (a b : Hit) : Bool := if a.score = b.score then Op.bytesLess a.key b.key else decide (a.score > b.score)
theorem better_t1 {a b : Hit} (h : a.score > b.score) : better a b = true := by unfold better; rw [if_neg (by omega)]; exact decide_eq_true h
theorem better_f1 {a b : Hit} (h : ¬ a.score > b.score) (h2 : ¬ a.score = b.score) : better a b = false := by unfold better; rw [if_neg h2]; exact decide_eq_false h
theorem better_ne {a b : Hit} (h : ¬ a.score = b.score) : better a b = decide (a.score > b.score) := by unfold better; rw [if_neg h]
theorem better_eq {a b : Hit} (h : a.score = b.score) : better a b = Op.bytesLess a.key b.key := by unfold better; rw [if_pos h]
theorem better_irrefl (a : Hit) : better a a = false := by unfold better; rw [if_pos rfl]; exact bless_irrefl _
theorem better_trans {a b c : Hit} (h : better a b = true) (k : better b c = true) : better a c = true := by
  unfold better at *
  by_cases h1 : a.score = b.score
  · rw [if_pos h1] at h
    by_cases h2 : b.score = c.score
    · rw [if_pos h2] at k; rw [if_pos (h1.trans h2)]; exact bless_trans h k
    · rw [if_neg h2] at k; rw [if_neg (by omega)]; rw [h1]; exact k
  · rw [if_neg h1] at h
    have h := of_decide_eq_true h
    by_cases h2 : b.score = c.score
    · rw [if_neg (by omega)]; exact decide_eq_true (by omega)
    · rw [if_neg h2] at k
      have k := of_decide_eq_true k
      rw [if_neg (by omega)]; exact decide_eq_true (by omega)
theorem better_tot {a b : Hit} (h : better a b = false) (k : better b a = false) : a = b := by
  unfold better at *
  by_cases h1 : a.score = b.score
  · rw [if_pos h1] at h; rw [if_pos h1.symm] at k
    cases a; cases b
    simp only [Hit.mk.injEq]
    exact ⟨bless_tot h k, h1⟩
  · rw [if_neg h1] at h; rw [if_neg (fun z => h1 z.symm)] at k
    have h := of_decide_eq_false h
    have k := of_decide_eq_false k
    omega
theorem better_asymm {a b : Hit} (h : better a b = true) : better b a = false := by
  cases k : better b a with
  | false => rfl
  | true => have := better_trans h k; rw [better_irrefl] at this; cases this
theorem better_nt {a b c : Hit} (h : better a b = false) (k : better b c = false) : better a c = false := by
  cases e : better a c with
  | false => rfl
  | true =>
    cases e2 : better b a with
    | true => rw [better_trans e2 e] at k; cases k
    | false => rw [better_tot h e2, k] at e; cases e
theorem better_yn {a b c : Hit} (h : better a b = true) (k : better a c = false) : better b c = false := by
  cases e : better b c with
  | false => rfl
  | true => rw [better_trans h e] at k; cases k
theorem better_any {a b c : Hit} (x : better a b = true) (y : better b c = true) : better a c = true := better_trans x y
/-! ### what was offered, in order -/
def ins (h : Hit) : List Hit → List Hit
  | [] => [h]
  | x :: r => if better h x = true then h :: x :: r else x :: ins h r
def posH (h : Hit) : List Hit → Nat
  | [] => 0
  | x :: r => if better h x = true then 0 else posH h r + 1
abbrev Srt (L : List Hit) : Prop := L.Pairwise fun a b => better b a = false
theorem ins_perm (h : Hit) : ∀ L, (ins h L).Perm (h :: L)
  | [] => List.Perm.refl _
  | x :: r => by
    unfold ins
    split
    · exact List.Perm.refl _
    · exact ((ins_perm h r).cons x).trans (List.Perm.swap _ _ _)
theorem ins_srt {h : Hit} : ∀ {L : List Hit}, Srt L → Srt (ins h L)
  | [], _ => List.pairwise_singleton _ _
  | x :: r, hs => by
    unfold ins
    have hs := List.pairwise_cons.1 hs
    split
    · rename_i hb
      refine List.pairwise_cons.2 ⟨fun y hy => ?_, List.pairwise_cons.2 hs⟩
      rcases List.mem_cons.1 hy with rfl | hy
      · exact better_asymm hb
      · exact better_nt (hs.1 y hy) (better_asymm hb)
    · rename_i hb
      refine List.pairwise_cons.2 ⟨fun y hy => ?_, ins_srt hs.2⟩
      rcases List.mem_cons.1 ((ins_perm h r).mem_iff.1 hy) with rfl | hy
      · simpa using hb
      · exact hs.1 y hy
theorem srt_uniq : ∀ {A B : List Hit}, Srt A → Srt B → A.Perm B → A = B
  | [], B, _, _, h => (List.nil_perm.1 h).symm
  | a :: A, [], _, _, h => absurd h.length_eq (by simp)
  | a :: A, b :: B, hA, hB, h => by
    have hA' := List.pairwise_cons.1 hA
    have hB' := List.pairwise_cons.1 hB
    have e : a = b := by
      have h1 : a ∈ b :: B := h.mem_iff.1 (List.mem_cons_self ..)
      have h2 : b ∈ a :: A := h.mem_iff.2 (List.mem_cons_self ..)
      rcases List.mem_cons.1 h1 with z | z
      · exact z
      · rcases List.mem_cons.1 h2 with y | y
        · exact y.symm
        · exact better_tot (hB'.1 a z) (hA'.1 b y) |>.symm ▸ rfl
    subst e
    rw [srt_uniq hA'.2 hB'.2 h.cons_inv]
def srt (os : List Hit) : List Hit := os.foldl (fun L h => ins h L) []
theorem srt_snoc (os : List Hit) (h : Hit) : srt (os ++ [h]) = ins h (srt os) := by unfold srt; rw [List.foldl_append]; rfl
theorem fold_srt {L : List Hit} (os : List Hit) (h : Srt L) : Srt (os.foldl (fun L h => ins h L) L) := by
  induction os generalizing L with
  | nil => exact h
  | cons x r ih => exact ih (ins_srt h)
theorem fold_perm (os L : List Hit) : (os.foldl (fun L h => ins h L) L).Perm (L ++ os) := by
  induction os generalizing L with
  | nil => rw [List.append_nil]; exact List.Perm.refl _
  | cons x r ih =>
    refine (ih (ins x L)).trans ?_
    refine ((ins_perm x L).append_right r).trans ?_
    exact List.perm_middle.symm
theorem srt_srt (os : List Hit) : Srt (srt os) := fold_srt os List.Pairwise.nil
theorem srt_perm (os : List Hit) : (srt os).Perm os := by have := fold_perm os []; rwa [List.nil_append] at this
theorem srt_len (os : List Hit) : (srt os).length = os.length := (srt_perm os).length_eq
theorem srt_congr {a b : List Hit} (h : a.Perm b) : srt a = srt b := srt_uniq (srt_srt a) (srt_srt b) ((srt_perm a).trans (h.trans (srt_perm b).symm))
theorem srt_id {L : List Hit} (h : Srt L) : srt L = L := srt_uniq (srt_srt L) h (srt_perm L)
theorem fold_eq {L : List Hit} (os : List Hit) (h : Srt L) : os.foldl (fun L h => ins h L) L = srt (L ++ os) := srt_uniq (fold_srt os h) (srt_srt _) ((fold_perm os L).trans (srt_perm _).symm)
theorem pos_le (h : Hit) : ∀ L, posH h L ≤ L.length
  | [] => Nat.le_refl _
  | x :: r => by unfold posH; split <;> simp; exact pos_le h r
theorem ins_pos (h : Hit) : ∀ L, ins h L = L.take (posH h L) ++ h :: L.drop (posH h L)
  | [] => rfl
  | x :: r => by
    unfold ins posH
    split
    · rfl
    · rw [List.take_succ_cons, List.drop_succ_cons, List.cons_append, ← ins_pos h r]
theorem take_ins (h : Hit) : ∀ (L : List Hit) (k : Nat), (ins h L).take k = (ins h (L.take k)).take k
  | [], k => by rw [List.take_nil]
  | x :: r, 0 => by rw [List.take_zero, List.take_zero]
  | x :: r, k + 1 => by
    rw [List.take_succ_cons]
    unfold ins
    split
    · rw [List.take_succ_cons, List.take_succ_cons]
      congr 1
      cases k with
      | zero => rfl
      | succ k => rw [List.take_succ_cons, List.take_succ_cons, List.take_take, Nat.min_eq_left (by omega)]
    · rw [List.take_succ_cons, List.take_succ_cons, take_ins h r k]
theorem take_fold (os : List Hit) : ∀ (L : List Hit) (k : Nat), (os.foldl (fun L h => ins h L) L).take k = (os.foldl (fun L h => ins h L) (L.take k)).take k := by
  induction os with
  | nil => intro L k; rw [List.foldl_nil, List.foldl_nil, List.take_take, Nat.min_self]
  | cons x r ih =>
    intro L k
    rw [List.foldl_cons, List.foldl_cons, ih, take_ins, ← ih]
theorem take_srt (L : List Hit) (hs : Srt L) (k : Nat) : Srt (L.take k) := hs.sublist (List.take_sublist _ _)
/-- the best of the best of two lists are the best of both -/
theorem best_parts (l m : List Hit) (k : Nat) : (srt (l ++ m)).take k = (srt ((srt l).take k ++ (srt m).take k)).take k := by
  have e1 : (srt (l ++ m)).take k = (srt ((srt l).take k ++ m)).take k := by
    have h1 : srt (l ++ m) = m.foldl (fun L h => ins h L) (srt l) := by
      rw [fold_eq m (srt_srt l)]; exact srt_congr ((srt_perm l).symm.append_right m)
    rw [h1, take_fold, fold_eq m (take_srt _ (srt_srt l) k)]
  have e2 : (srt ((srt l).take k ++ m)).take k = (srt ((srt l).take k ++ (srt m).take k)).take k := by
    have h1 : srt ((srt l).take k ++ m) = ((srt l).take k).foldl (fun L h => ins h L) (srt m) := by
      rw [fold_eq _ (srt_srt m)]; exact srt_congr (List.perm_append_comm.trans ((srt_perm m).symm.append_right _))
    rw [h1, take_fold, fold_eq _ (take_srt _ (srt_srt m) k)]
    rw [srt_congr List.perm_append_comm]
  rw [e1, e2]
/-! ### the heap -/
def lt2 (l : List Hit) (a b : Nat) : Bool := better (l.getD a hz) (l.getD b hz)
def Heap (l : List Hit) : Prop := ∀ k, 0 < k → k < l.length → lt2 l ((k - 1) / 2) k = false
def swapL (l : List Hit) (i j : Nat) : List Hit := (l.set i (l.getD j hz)).set j (l.getD i hz)
theorem swap_len (l : List Hit) (i j : Nat) : (swapL l i j).length = l.length := by simp [swapL]
theorem swap_get {l : List Hit} {i j k : Nat} (hi : i < l.length) (hj : j < l.length) : (swapL l i j).getD k hz = if k = j then l.getD i hz else if k = i then l.getD j hz else l.getD k hz := by
  unfold swapL
  by_cases h1 : k = j
  · subst h1
    rw [if_pos rfl, List.getD_eq_getElem?_getD, List.getElem?_set_self (by rw [List.length_set]; exact hj)]; rfl
  · rw [if_neg h1, List.getD_eq_getElem?_getD, List.getElem?_set_ne (by omega)]
    by_cases h2 : k = i
    · subst h2; rw [if_pos rfl, List.getElem?_set_self hi]; rfl
    · rw [if_neg h2, List.getElem?_set_ne (by omega), ← List.getD_eq_getElem?_getD]
theorem swap_perm {l : List Hit} {i j : Nat} (hi : i < l.length) (hj : j < l.length) : (swapL l i j).Perm l := by
  unfold swapL
  have e1 : l.getD j hz = l[j] := by rw [List.getD_eq_getElem?_getD, List.getElem?_eq_getElem hj]; rfl
  have e2 : l.getD i hz = l[i] := by rw [List.getD_eq_getElem?_getD, List.getElem?_eq_getElem hi]; rfl
  rw [e1, e2]
  exact List.set_set_perm hi hj
theorem heap_top {l : List Hit} (h : Heap l) : ∀ (N k : Nat), k < N → k < l.length → lt2 l 0 k = false
  | 0, _, h, _ => absurd h (Nat.not_lt_zero _)
  | N + 1, 0, _, _ => better_irrefl _
  | N + 1, k + 1, h1, h2 => better_nt (heap_top h N ((k + 1 - 1) / 2) (by omega) (by omega)) (h (k + 1) (by omega) h2)
/-- a heap but for the place j, that may stand too deep -/
def UpI (l : List Hit) (j : Nat) : Prop := (∀ k, 0 < k → k < l.length → k ≠ j → lt2 l ((k - 1) / 2) k = false) ∧ (∀ k, 0 < k → k < l.length → (k - 1) / 2 = j → 0 < j → lt2 l ((j - 1) / 2) k = false)
theorem up_stop {l : List Hit} {j : Nat} (h : UpI l j) (hs : j = 0 ∨ lt2 l ((j - 1) / 2) j = false) : Heap l := by
  intro k h1 h2
  by_cases e : k = j
  · subst e; rcases hs with z | z
    · omega
    · exact z
  · exact h.1 k h1 h2 e
theorem up_step {l : List Hit} {j : Nat} (h : UpI l j) (hj : j < l.length) (h0 : 0 < j) (hs : lt2 l ((j - 1) / 2) j = true) : UpI (swapL l ((j - 1) / 2) j) ((j - 1) / 2) := by
  obtain ⟨i, hi⟩ : ∃ i, (j - 1) / 2 = i := ⟨_, rfl⟩
  rw [hi] at hs ⊢
  have hil : i < l.length := by omega
  have g := fun k => swap_get (k := k) hil hj
  have hs' : better (l.getD i hz) (l.getD j hz) = true := hs
  refine ⟨fun k h1 h2 h3 => ?_, fun k h1 h2 h3 h4 => ?_⟩
  · rw [swap_len] at h2
    unfold lt2
    rw [g, g]
    by_cases e1 : k = j
    · subst e1
      rw [if_pos rfl, if_neg (by omega), if_pos hi]
      exact better_asymm hs'
    · rw [if_neg e1, if_neg h3]
      by_cases e2 : (k - 1) / 2 = j
      · rw [if_pos e2]
        have := h.2 k h1 h2 e2 h0
        rw [hi] at this; exact this
      · rw [if_neg e2]
        by_cases e3 : (k - 1) / 2 = i
        · rw [if_pos e3]
          have := h.1 k h1 h2 e1
          rw [e3] at this
          exact better_yn hs' this
        · rw [if_neg e3]; exact h.1 k h1 h2 e1
  · rw [swap_len] at h2
    unfold lt2
    rw [g, g, if_neg (by omega), if_neg (by omega)]
    have hii := h.1 i h4 hil (by omega)
    by_cases e1 : k = j
    · rw [if_pos e1]; exact hii
    · rw [if_neg e1, if_neg (by omega)]
      have := h.1 k h1 h2 e1
      rw [h3] at this
      exact better_nt hii this
/-- a heap but for what lies under the place i -/
def DownI (l : List Hit) (i : Nat) : Prop := (∀ k, 0 < k → k < l.length → (k - 1) / 2 ≠ i → lt2 l ((k - 1) / 2) k = false) ∧ (∀ k, 0 < k → k < l.length → (k - 1) / 2 = i → 0 < i → lt2 l ((i - 1) / 2) k = false)
theorem down_end {l : List Hit} {i : Nat} (h : DownI l i) (hs : l.length ≤ 2 * i + 1) : Heap l := fun k h1 h2 => h.1 k h1 h2 (by omega)
/-- the worse one of the two below -/
def Worse (l : List Hit) (i j : Nat) : Prop := (j = 2 * i + 1 ∨ j = 2 * i + 2) ∧ j < l.length ∧ ∀ k, 0 < k → k < l.length → (k - 1) / 2 = i → lt2 l j k = false
theorem worse_one {l : List Hit} {i : Nat} (h : 2 * i + 1 < l.length) (h2 : ¬ (2 * i + 1 + 1 < l.length ∧ lt2 l (2 * i + 1) (2 * i + 1 + 1) = true)) : Worse l i (2 * i + 1) := by
  refine ⟨.inl rfl, h, fun k h3 h4 h5 => ?_⟩
  have : k = 2 * i + 1 ∨ k = 2 * i + 1 + 1 := by omega
  rcases this with e | e
  · subst e; exact better_irrefl _
  · subst e
    cases z : lt2 l (2 * i + 1) (2 * i + 1 + 1) with
    | false => rfl
    | true => exact absurd ⟨h4, z⟩ h2
theorem worse_two {l : List Hit} {i : Nat} (h : 2 * i + 1 + 1 < l.length) (h2 : lt2 l (2 * i + 1) (2 * i + 1 + 1) = true) : Worse l i (2 * i + 1 + 1) := by
  refine ⟨.inr rfl, h, fun k h3 h4 h5 => ?_⟩
  have : k = 2 * i + 1 ∨ k = 2 * i + 1 + 1 := by omega
  rcases this with e | e
  · subst e; exact better_asymm h2
  · subst e; exact better_irrefl _
theorem down_stop {l : List Hit} {i j : Nat} (h : DownI l i) (hw : Worse l i j) (hs : lt2 l i j = false) : Heap l := by
  intro k h1 h2
  by_cases e : (k - 1) / 2 = i
  · rw [e]; exact better_nt hs (hw.2.2 k h1 h2 e)
  · exact h.1 k h1 h2 e
theorem down_step {l : List Hit} {i j : Nat} (h : DownI l i) (hw : Worse l i j) (hs : lt2 l i j = true) : DownI (swapL l i j) j := by
  obtain ⟨hj1, hj, hk⟩ := hw
  have hpj : (j - 1) / 2 = i := by omega
  have hil : i < l.length := by omega
  have g := fun k => swap_get (k := k) hil hj
  have hs' : better (l.getD i hz) (l.getD j hz) = true := hs
  refine ⟨fun k h1 h2 h3 => ?_, fun k h1 h2 h3 h4 => ?_⟩
  · rw [swap_len] at h2
    unfold lt2
    rw [g, g, if_neg h3]
    by_cases e2 : (k - 1) / 2 = i
    · rw [if_pos e2]
      by_cases e1 : k = j
      · rw [if_pos e1]; exact better_asymm hs'
      · rw [if_neg e1, if_neg (by omega)]; exact hk k h1 h2 e2
    · rw [if_neg e2, if_neg (by omega)]
      by_cases e3 : k = i
      · subst e3
        rw [if_pos rfl]
        exact h.2 j (by omega) hj hpj h1
      · rw [if_neg e3]; exact h.1 k h1 h2 e2
  · rw [swap_len] at h2
    unfold lt2
    rw [g, g, hpj, if_neg (by omega), if_pos rfl, if_neg (by omega), if_neg (by omega)]
    have := h.1 k h1 h2 (by omega)
    rw [h3] at this
    exact this
theorem up_start {l : List Hit} {x : Hit} (h : Heap l) : UpI (l ++ [x]) l.length := by
  have g : ∀ k, k < l.length → (l ++ [x]).getD k hz = l.getD k hz := fun k hk => by
    rw [List.getD_eq_getElem?_getD, List.getElem?_append_left hk, ← List.getD_eq_getElem?_getD]
  refine ⟨fun k h1 h2 h3 => ?_, fun k h1 h2 h3 h4 => ?_⟩
  · rw [List.length_append] at h2
    simp only [List.length_cons, List.length_nil] at h2
    unfold lt2
    rw [g _ (by omega), g _ (by omega)]
    exact h k h1 (by omega)
  · rw [List.length_append] at h2
    simp only [List.length_cons, List.length_nil] at h2
    omega
theorem upj {l : List Hit} {x : Hit} (h : Heap l) : UpI (l ++ [x]) ((l ++ [x]).length - 1) := by
  rw [show (l ++ [x]).length - 1 = l.length by simp]; exact up_start h
/-- the last one comes to the top, the top goes -/
theorem down_start {l : List Hit} (h : Heap l) (hn : 0 < l.length) : DownI ((swapL l 0 (l.length - 1)).take (l.length - 1)) 0 := by
  refine ⟨fun k h1 h2 h3 => ?_, fun k _ _ _ h4 => absurd h4 (Nat.lt_irrefl _)⟩
  rw [List.length_take, swap_len] at h2
  have g : ∀ k, k < l.length - 1 → ((swapL l 0 (l.length - 1)).take (l.length - 1)).getD k hz = (swapL l 0 (l.length - 1)).getD k hz := fun k hk => by
    rw [List.getD_eq_getElem?_getD, List.getElem?_take_of_lt hk, ← List.getD_eq_getElem?_getD]
  unfold lt2
  rw [g _ (by omega), g _ (by omega), swap_get (by omega) (by omega), swap_get (by omega) (by omega), if_neg (by omega), if_neg (by omega), if_neg (by omega), if_neg (by omega)]
  exact h k h1 (by omega)
theorem swap_last {l : List Hit} (hn : 0 < l.length) : swapL l 0 (l.length - 1) = (swapL l 0 (l.length - 1)).take (l.length - 1) ++ [l.getD 0 hz] := by
  have h := List.take_append_drop (l.length - 1) (swapL l 0 (l.length - 1))
  have hl : l.length - 1 < (swapL l 0 (l.length - 1)).length := by rw [swap_len]; omega
  rw [List.drop_eq_getElem_cons hl, List.drop_eq_nil_of_le (by rw [swap_len]; omega)] at h
  have e : (swapL l 0 (l.length - 1))[l.length - 1] = l.getD 0 hz := by
    have := swap_get (l := l) (i := 0) (j := l.length - 1) (k := l.length - 1) (by omega) (by omega)
    rw [if_pos rfl, List.getD_eq_getElem?_getD, List.getElem?_eq_getElem hl] at this
    exact this
  rw [e] at h
  exact h.symm
theorem half_up {j : Nat} (h : j ≤ 4611686018427387904) : IntKind.wrap .i64 ((((j : Nat) : Int) - 1).tdiv 2) = (((j - 1) / 2 : Nat) : Int) := by
  rcases Nat.eq_zero_or_pos j with e | e
  · subst e; decide
  · rw [IntKind.wrap_i64, Int.tdiv_eq_ediv_of_nonneg (by omega)]; omega
theorem get_app {p : List Hit} {x : Hit} {a : Nat} (h : a < p.length) : (p ++ [x]).getD a hz = p.getD a hz := by
  rw [List.getD_eq_getElem?_getD, List.getElem?_append_left h, ← List.getD_eq_getElem?_getD]
theorem lt2_app {p : List Hit} {x : Hit} {a b : Nat} (h : a < p.length) (h2 : b < p.length) : lt2 (p ++ [x]) a b = lt2 p a b := by
  unfold lt2; rw [get_app h, get_app h2]
theorem swap_app {p : List Hit} {x : Hit} {a b : Nat} (h : a < p.length) (h2 : b < p.length) : swapL (p ++ [x]) a b = swapL p a b ++ [x] := by
  unfold swapL
  rw [get_app h, get_app h2, List.set_append_left _ _ h, List.set_append_left _ _ (by rw [List.length_set]; exact h2)]
/-! ### a top -/
def TopI (m : Nat) (os l : List Hit) : Prop := Heap l ∧ l.Perm ((srt os).take m)
theorem top_nil (m : Nat) : TopI m [] [] := ⟨fun k _ h => absurd h (Nat.not_lt_zero _), by rw [show srt [] = [] from rfl, List.take_nil]⟩
theorem top_len {m : Nat} {os l : List Hit} (h : TopI m os l) : l.length = min m os.length := by rw [h.2.length_eq, List.length_take, srt_len]
theorem pos_app {h : Hit} : ∀ (A B : List Hit), (∀ x ∈ A, better h x = false) → posH h (A ++ B) = A.length + posH h B
  | [], B, _ => by rw [List.nil_append, List.length_nil, Nat.zero_add]
  | a :: A, B, hA => by
    rw [List.cons_append, posH, if_neg (by rw [hA a (List.mem_cons_self ..)]; decide), pos_app A B fun x hx => hA x (List.mem_cons_of_mem _ hx), List.length_cons]
    omega
theorem pos_lt {h : Hit} : ∀ (A B : List Hit), Srt (A ++ B) → (∃ x ∈ A, better h x = true) → posH h (A ++ B) < A.length
  | [], _, _, ⟨_, hx, _⟩ => absurd hx (List.not_mem_nil)
  | a :: A, B, hs, ⟨x, hx, hb⟩ => by
    rw [List.cons_append] at hs ⊢
    unfold posH
    split
    · simp
    · rename_i hna
      rcases List.mem_cons.1 hx with rfl | hx
      · exact absurd hb hna
      · have := pos_lt A B (List.pairwise_cons.1 hs).2 ⟨x, hx, hb⟩
        simp; exact this
theorem ins_out {h : Hit} {T : List Hit} (hT : ∀ x ∈ T, better h x = false) : ins h T = T ++ [h] := by
  rw [ins_pos]
  have := pos_app T [] hT
  rw [List.append_nil] at this
  have e : posH h T = T.length := by rw [this]; rfl
  rw [e, List.take_length, List.drop_length]
theorem ins_app {h : Hit} {A : List Hit} {t : Hit} (hb : better h t = true) : ins h (A ++ [t]) = ins h A ++ [t] := by
  induction A with
  | nil => show ins h [t] = [h] ++ [t]; unfold ins; rw [if_pos hb]; rfl
  | cons a A ih =>
    rw [List.cons_append]
    unfold ins
    split
    · rfl
    · rw [ih]; rfl
section
variable {m : Nat} {os l : List Hit} {h : Hit}
/-- there is room -/
theorem top_room (ht : TopI m os l) (hl : l.length ≠ m) : posH h (srt os) < m ∧ ∀ l', Heap l' → l'.Perm (l ++ [h]) → TopI m (os ++ [h]) l' := by
  have h1 := top_len ht
  have h2 : os.length < m := by omega
  have h3 := pos_le h (srt os)
  rw [srt_len] at h3
  refine ⟨by omega, fun l' hh hp => ⟨hh, ?_⟩⟩
  rw [List.take_of_length_le (by rw [srt_len, List.length_append]; simp; omega)]
  have h4 := ht.2
  rw [List.take_of_length_le (by rw [srt_len]; omega)] at h4
  exact hp.trans ((h4.append_right _).trans (((srt_perm os).append_right _).trans (srt_perm _).symm))
theorem top_worst (ht : TopI m os l) (hn : 0 < l.length) : ∀ x ∈ (srt os).take m, better (l.getD 0 hz) x = false := by
  intro x hx
  have hx := ht.2.mem_iff.2 hx
  obtain ⟨k, hk, rfl⟩ := List.getElem_of_mem hx
  have := heap_top ht.1 (l.length + 1) k (by omega) hk
  unfold lt2 at this
  rwa [show l.getD k hz = l[k] by rw [List.getD_eq_getElem?_getD, List.getElem?_eq_getElem hk]; rfl] at this
theorem top_mem (ht : TopI m os l) (hn : 0 < l.length) : l.getD 0 hz ∈ (srt os).take m := by
  refine ht.2.mem_iff.1 ?_
  rw [List.getD_eq_getElem?_getD, List.getElem?_eq_getElem hn]; exact List.getElem_mem hn
/-- it isn't kept -/
theorem top_no (ht : TopI m os l) (hn : 0 < l.length) (hl : l.length = m) (hb : better h (l.getD 0 hz) = false) : ¬ posH h (srt os) < m ∧ TopI m (os ++ [h]) l := by
  have h1 := top_len ht
  have hT : ∀ x ∈ (srt os).take m, better h x = false := fun x hx => better_nt hb (top_worst ht hn x hx)
  have hTl : ((srt os).take m).length = m := by rw [List.length_take, srt_len]; omega
  refine ⟨?_, ht.1, ?_⟩
  · have := pos_app _ ((srt os).drop m) hT
    rw [List.take_append_drop, hTl] at this
    omega
  · rw [srt_snoc, take_ins, ins_out hT, List.take_left' hTl]
    exact ht.2
/-- it's kept, the worst one goes -/
theorem top_yes (ht : TopI m os l) (hn : 0 < l.length) (hl : l.length = m) (hb : better h (l.getD 0 hz) = true) : posH h (srt os) < m ∧ ∀ p l', (p ++ [l.getD 0 hz]).Perm l → Heap l' → l'.Perm (p ++ [h]) → TopI m (os ++ [h]) l' := by
  have h1 := top_len ht
  have hTl : ((srt os).take m).length = m := by rw [List.length_take, srt_len]; omega
  have hs := srt_srt os
  refine ⟨?_, fun p l' hp hh hl' => ⟨hh, ?_⟩⟩
  · have := pos_lt (h := h) ((srt os).take m) ((srt os).drop m) (by rw [List.take_append_drop]; exact hs) ⟨_, top_mem ht hn, hb⟩
    rw [List.take_append_drop, hTl] at this
    exact this
  · obtain ⟨T, t, hT⟩ : ∃ T t, (srt os).take m = T ++ [t] := by
      refine ⟨((srt os).take m).dropLast, ((srt os).take m).getLast (fun z => by rw [z] at hTl; simp at hTl; omega), (List.dropLast_concat_getLast _).symm⟩
    have hsT := take_srt _ hs m
    have e : l.getD 0 hz = t := by
      refine better_tot (top_worst ht hn t (by rw [hT]; simp)) ?_
      have h4 := top_mem ht hn
      rw [hT] at h4 hsT
      rcases List.mem_append.1 h4 with z | z
      · exact (List.pairwise_append.1 hsT).2.2 _ z t (by simp)
      · rw [List.mem_singleton.1 z]; exact better_irrefl _
    have hpT : p.Perm T := by
      have := hp.trans ht.2
      rw [hT, e] at this
      exact (List.perm_append_right_iff [t]).1 this
    rw [srt_snoc, take_ins, hT, ins_app (by rw [← e]; exact hb)]
    have hl2 : (ins h T).length = m := by
      rw [(ins_perm h T).length_eq, List.length_cons]
      have := congrArg List.length hT
      rw [hTl, List.length_append] at this
      simpa using this.symm
    rw [List.take_left' hl2]
    exact hl'.trans ((hpT.append_right _).trans (List.perm_append_comm.trans (ins_perm h T).symm))
end
end Go.HitP
namespace Go.HitP
open Go.Gw
/-- what the comparison of List answers -/
def cfH (x y : Hit) : Int := if better x y = true then -1 else if better y x = true then 1 else 0
theorem lt_cfH (x y : Hit) : decide (cfH x y < 0) = better x y := by
  unfold cfH
  split
  · rename_i h; rw [h]; rfl
  · rename_i h
    have h : better x y = false := by simpa using h
    rw [h]
    split <;> rfl
theorem merge_srt (l : List Hit) : (l.mergeSort fun x y => !(decide (cfH y x < 0))) = srt l := by
  have e : (fun x y => !(decide (cfH y x < 0))) = fun x y => !(better y x) := by funext x y; rw [lt_cfH]
  rw [e]
  refine srt_uniq ?_ (srt_srt l) ((List.mergeSort_perm l _).trans (srt_perm l).symm)
  have := List.pairwise_mergeSort (le := fun x y => !(better y x)) (fun a b c h k => by simp at h k ⊢; exact better_nt k h) (fun a b => by
    cases h : better b a with
    | false => simp
    | true => simp [better_asymm h]) l
  exact this.imp fun h => by simpa using h
def newE (m : Int) : Int := if m < 1 then 1 else if m > 100 then 4 else 0
theorem newE_low {m : Int} (h : m < 1) : newE m = 1 := if_pos h
theorem newE_high {m : Int} (h : m > 100) : newE m = 4 := by unfold newE; rw [if_neg (by omega), if_pos h]
theorem newE_ok {m : Int} (h : ¬ m < 1) (h2 : ¬ m > 100) : newE m = 0 := by unfold newE; rw [if_neg h, if_neg h2]
theorem top_list {m : Nat} {os l : List Hit} (h : TopI m os l) : srt l = (srt os).take m := (srt_congr h.2).trans (srt_id (take_srt _ (srt_srt os) m))
end Go.HitP
namespace Go.HitP
open Go.Gw
theorem hit_no {a b : Hit} (h : ¬ (a.key = b.key ∧ a.score = b.score)) : ¬ a = b := fun z => h (by rw [z]; exact ⟨rfl, rfl⟩)
theorem hit_yes {a b : Hit} (h : a.key = b.key) (h2 : a.score = b.score) : a = b := by cases a; cases b; simp only at h h2; subst h; subst h2; rfl
theorem hits_ext {a b : List Hit} (h : a.length = b.length) (h2 : ∀ j, j < a.length → a.getD j hz = b.getD j hz) : a = b := by
  apply List.ext_getElem h
  intro j h3 h4
  have := h2 j h3
  rwa [List.getD_eq_getElem?_getD, List.getD_eq_getElem?_getD, List.getElem?_eq_getElem h3, List.getElem?_eq_getElem h4] at this
end Go.HitP
