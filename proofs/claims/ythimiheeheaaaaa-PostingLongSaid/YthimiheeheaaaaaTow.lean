/-
  The tower over a list of documents, and where a document is found in it. No condition beyond those that each theorem names.
-/
import Derived.Test.YthimiheeheaaaaaPostW
namespace Go.PostP
open Go.Gw Go.NumP Go.LiveP Go.PackP
set_option linter.unusedVariables false
set_option linter.unusedSimpArgs false
def tcells (T : PS) (X : Nat → Value) : List Value := (List.range T.length).map X
theorem t_at {T : PS} {X : Nat → Value} {j : Nat} (h : j < T.length) : (tcells T X)[j]? = some (X j) := by
  unfold tcells; simp [h]
theorem tcells_snoc (T : PS) (X : Nat → Value) (p : Int × List Int) (x : Value) : tcells T X ++ [x] = tcells (T ++ [p]) (updX X T.length x) := by
  unfold tcells
  rw [List.length_append, List.length_cons, List.length_nil, List.range_succ, List.map_append]
  congr 1
  · exact List.map_congr_left fun j hj => (updX_lt (List.mem_range.1 hj)).symm
  · simp [updX_at]
theorem tcells_one (T : PS) (X : Nat → Value) (h : ∀ j, j < T.length → (X j).oneCell' = true) : ∀ u ∈ tcells T X, u.oneCell' = true := by
  intro u hu
  obtain ⟨j, hj, rfl⟩ := List.mem_map.1 hu
  exact h j (List.mem_range.1 hj)
/-- the last of each 128 -/
def upK (q : List Int) (i : Nat) : List Int := (List.range i).map fun j => q.getD (min (127 + 128 * j) (q.length - 1)) 0
def up (q : List Int) : List Int := upK q ((q.length + 127) / 128)
theorem upK_len (q : List Int) (i : Nat) : (upK q i).length = i := by simp [upK]
theorem up_len (q : List Int) : (up q).length = (q.length + 127) / 128 := upK_len _ _
theorem upK_snoc (q : List Int) (i : Nat) : upK q (i + 1) = upK q i ++ [q.getD (min (127 + 128 * i) (q.length - 1)) 0] := by
  unfold upK; rw [List.range_succ, List.map_append]; rfl
theorem up_get {q : List Int} {j : Nat} (h : j < (q.length + 127) / 128) : (up q).getD j 0 = q.getD (min (127 + 128 * j) (q.length - 1)) 0 := by
  unfold up upK
  rw [List.getD_eq_getElem?_getD, List.getElem?_map, List.getElem?_range h]; rfl
def towT (l : List Int) : PS := (0, l) :: (if h : 128 < l.length then towT (up l) else [])
termination_by l.length
decreasing_by rw [up_len]; omega
theorem tow_pos (l : List Int) : 0 < (towT l).length := by rw [towT]; simp
theorem tow_zero (l : List Int) : ((towT l).getD 0 zp).2 = l := by rw [towT]; rfl
theorem tow_stop {l : List Int} (h : ¬ 128 < l.length) : towT l = [(0, l)] := by rw [towT, dif_neg h]
theorem tow_go {l : List Int} (h : 128 < l.length) : towT l = (0, l) :: towT (up l) := by rw [towT, dif_pos h]
theorem tow_up : ∀ (N : Nat) (l : List Int) (k : Nat), l.length < N → k + 1 < (towT l).length → ((towT l).getD (k + 1) zp).2 = up ((towT l).getD k zp).2
  | 0, _, _, h, _ => absurd h (Nat.not_lt_zero _)
  | N + 1, l, k, h, hk => by
    by_cases hl : 128 < l.length
    · rw [tow_go hl] at hk ⊢
      cases k with
      | zero => show ((towT (up l)).getD 0 zp).2 = up l; exact tow_zero _
      | succ k =>
        show ((towT (up l)).getD (k + 1) zp).2 = up ((towT (up l)).getD k zp).2
        exact tow_up N (up l) k (by rw [up_len]; omega) (by simpa using hk)
    · rw [tow_stop hl] at hk; simp at hk
theorem tow_rel (l : List Int) {k : Nat} (hk : k + 1 < (towT l).length) : ((towT l).getD (k + 1) zp).2 = up ((towT l).getD k zp).2 := tow_up (l.length + 1) l k (by omega) hk
theorem tow_small (l : List Int) : ∀ k, k < (towT l).length → ((towT l).getD k zp).2.length ≤ l.length
  | 0, _ => by rw [tow_zero]; exact Nat.le_refl _
  | k + 1, h => by
    rw [tow_rel l h, up_len]
    have := tow_small l k (by omega)
    rcases Nat.eq_zero_or_pos ((towT l).getD k zp).2.length with e | e <;> omega
theorem tow_lens : ∀ (N : Nat) (l : List Int), l.length < N → (towT l).length ≤ l.length + 1
  | 0, _, h => absurd h (Nat.not_lt_zero _)
  | N + 1, l, h => by
    by_cases hl : 128 < l.length
    · rw [tow_go hl, List.length_cons]
      have := tow_lens N (up l) (by rw [up_len]; omega)
      rw [up_len] at this
      omega
    · rw [tow_stop hl]; simp
theorem tow_len (l : List Int) : (towT l).length ≤ l.length + 1 := tow_lens (l.length + 1) l (by omega)
/-- the first place from f on that is not below d -/
def fge (l : List Int) (f : Nat) (d : Int) : Nat := if h : f < l.length then (if l.getD f 0 < d then fge l (f + 1) d else f) else f
termination_by l.length - f
theorem fge_lt {l : List Int} {f : Nat} {d : Int} (h : f < l.length) (h2 : l.getD f 0 < d) : fge l f d = fge l (f + 1) d := by rw [fge, dif_pos h, if_pos h2]
theorem fge_ge {l : List Int} {f : Nat} {d : Int} (h : f < l.length) (h2 : ¬ l.getD f 0 < d) : fge l f d = f := by rw [fge, dif_pos h, if_neg h2]
theorem fge_end {l : List Int} {f : Nat} {d : Int} (h : ¬ f < l.length) : fge l f d = f := by rw [fge, dif_neg h]
theorem fge_skip {l : List Int} {d : Int} : ∀ (m f : Nat), f + m ≤ l.length → (∀ i, f ≤ i → i < f + m → l.getD i 0 < d) → fge l f d = fge l (f + m) d
  | 0, f, _, _ => rfl
  | m + 1, f, h, h2 => by
    rw [fge_lt (by omega) (h2 f (Nat.le_refl _) (by omega)), fge_skip m (f + 1) (by omega) fun i a b => h2 i (by omega) (by omega)]
    congr 1; omega
theorem fge_bd {l : List Int} {f : Nat} {d : Int} (hf : f ≤ l.length) : f ≤ fge l f d ∧ fge l f d ≤ l.length := by
  obtain ⟨m, hm⟩ : ∃ m, l.length - f = m := ⟨_, rfl⟩
  induction m generalizing f with
  | zero => rw [fge_end (by omega)]; omega
  | succ m ih =>
    by_cases h : l.getD f 0 < d
    · rw [fge_lt (by omega) h]; have := ih (f := f + 1) (by omega) (by omega); omega
    · rw [fge_ge (by omega) h]; omega
def Asc (l : List Int) : Prop := ∀ i j, i ≤ j → j < l.length → l.getD i 0 ≤ l.getD j 0
/-- what has been passed, at a level and a place of it -/
def Past (l : List Int) (f0 : Nat) (d : Int) (k f : Nat) : Prop := f0 ≤ f * 128 ^ k ∧ ∀ i, f0 ≤ i → i < f * 128 ^ k → i < l.length → l.getD i 0 < d
section
variable {l : List Int} {f0 k f : Nat} {d : Int}
theorem past_start : Past l f0 d 0 f0 := by
  constructor
  · simp
  · intro i h1 h2 _; simp at h2; omega
theorem past_down (h : Past l f0 d (k + 1) f) : Past l f0 d k (f * 128) := by
  unfold Past at h ⊢
  rw [show f * 128 * 128 ^ k = f * 128 ^ (k + 1) by rw [Nat.pow_succ]; rw [Nat.mul_assoc, Nat.mul_comm 128]]
  exact h
/-- what a level holds -/
theorem tow_val (l : List Int) : ∀ k, k < (towT l).length → (∀ j, j < ((towT l).getD k zp).2.length → ∃ i, i < l.length ∧ ((towT l).getD k zp).2.getD j 0 = l.getD i 0 ∧ (i + 1 = (j + 1) * 128 ^ k ∨ i + 1 = l.length ∧ l.length ≤ (j + 1) * 128 ^ k)) ∧ (l.length ≤ ((towT l).getD k zp).2.length * 128 ^ k)
  | 0, _ => by
    rw [tow_zero]
    exact ⟨fun j hj => ⟨j, hj, rfl, .inl (by simp)⟩, by simp⟩
  | k + 1, h => by
    obtain ⟨h1, h2⟩ := tow_val l k (by omega)
    rw [tow_rel l h]
    obtain ⟨q, hq⟩ : ∃ q, ((towT l).getD k zp).2 = q := ⟨_, rfl⟩
    rw [hq] at h1 h2 ⊢
    refine ⟨fun j hj => ?_, ?_⟩
    · rw [up_len] at hj
      rw [up_get hj]
      have hql : 0 < q.length := by omega
      obtain ⟨i, a, b, c⟩ := h1 (min (127 + 128 * j) (q.length - 1)) (by omega)
      refine ⟨i, a, b, ?_⟩
      have e : (j + 1) * 128 ^ (k + 1) = (127 + 128 * j + 1) * 128 ^ k := by
        rw [Nat.pow_succ, Nat.mul_comm (128 ^ k) 128, ← Nat.mul_assoc]; congr 1; omega
      rw [e]
      rcases Nat.lt_or_ge (127 + 128 * j) (q.length - 1) with g | g
      · rw [Nat.min_eq_left (by omega)] at c
        exact c
      · rw [Nat.min_eq_right (by omega)] at c
        rw [show q.length - 1 + 1 = q.length by omega] at c
        have g2 : q.length * 128 ^ k ≤ (127 + 128 * j + 1) * 128 ^ k := Nat.mul_le_mul_right _ (by omega)
        rcases c with c | c
        · right; omega
        · right; omega
    · rw [up_len, Nat.pow_succ, Nat.mul_comm (128 ^ k) 128, ← Nat.mul_assoc]
      exact Nat.le_trans h2 (Nat.mul_le_mul_right _ (by omega))
theorem past_val (ha : Asc l) (hk : k < (towT l).length) {j : Nat} (hj : j < ((towT l).getD k zp).2.length) (hv : ((towT l).getD k zp).2.getD j 0 < d) : ∀ i, i < (j + 1) * 128 ^ k → i < l.length → l.getD i 0 < d := by
  obtain ⟨m, a, b, c⟩ := (tow_val l k hk).1 j hj
  intro i h1 h2
  have : l.getD i 0 ≤ l.getD m 0 := ha i m (by omega) a
  omega
theorem past_step (ha : Asc l) (hk : k < (towT l).length) (h : Past l f0 d k f) (hj : f < ((towT l).getD k zp).2.length) (hv : ((towT l).getD k zp).2.getD f 0 < d) : Past l f0 d k (f + 1) := by
  refine ⟨Nat.le_trans h.1 (Nat.mul_le_mul_right _ (by omega)), fun i h1 h2 h3 => past_val ha hk hj hv i h2 h3⟩
theorem past_up (ha : Asc l) (hk : k + 1 < (towT l).length) (h : Past l f0 d k f) (hf : f < ((towT l).getD k zp).2.length) (hv : ((towT l).getD (k + 1) zp).2.getD (f / 128) 0 < d) : Past l f0 d (k + 1) (f / 128 + 1) ∧ f / 128 + 1 ≤ ((towT l).getD (k + 1) zp).2.length := by
  have hl : f / 128 < ((towT l).getD (k + 1) zp).2.length := by rw [tow_rel l hk, up_len]; omega
  refine ⟨⟨?_, fun i h1 h2 h3 => past_val ha hk hl hv i h2 h3⟩, hl⟩
  refine Nat.le_trans h.1 ?_
  rw [Nat.pow_succ, Nat.mul_comm (128 ^ k) 128, ← Nat.mul_assoc]
  exact Nat.mul_le_mul_right _ (by omega)
theorem past_end (hk : k < (towT l).length) (hf0 : f0 ≤ l.length) (h : Past l f0 d k f) (hf : ((f : Nat) : Int) = (((towT l).getD k zp).2.length : Nat)) : fge l f0 d = l.length := by
  have h2 := (tow_val l k hk).2
  have hf : f = ((towT l).getD k zp).2.length := by omega
  rw [← hf] at h2
  have := fge_skip (l := l) (d := d) (l.length - f0) f0 (by omega) fun i a b => h.2 i a (by omega) (by omega)
  rw [this, fge_end (by omega)]; omega
theorem past_zero (h : Past l f0 d 0 f) (hf : f < l.length) (hv : ¬ l.getD f 0 < d) : fge l f0 d = f := by
  have h1 := h.1
  have h2 := h.2
  simp only [Nat.pow_zero, Nat.mul_one] at h1 h2
  have := fge_skip (l := l) (d := d) (f - f0) f0 (by omega) fun i a b => h2 i a (by omega) (by omega)
  rw [this, show f0 + (f - f0) = f by omega, fge_ge hf hv]
theorem past_fit (hk : k + 1 < (towT l).length) (hf : f < ((towT l).getD (k + 1) zp).2.length) : f * 128 ≤ ((towT l).getD k zp).2.length := by
  rw [tow_rel l hk, up_len] at hf; omega
end
end Go.PostP
namespace Go.PostP
open Go.Gw Go.NumP Go.LiveP Go.PackP
/-- the levels above -/
def moreT (q : List Int) : PS := if 128 < q.length then towT (up q) else []
theorem tow_more (l : List Int) : towT l = [((0 : Int), l)] ++ moreT l := by
  unfold moreT
  by_cases h : 128 < l.length
  · rw [tow_go h, if_pos h]; rfl
  · rw [tow_stop h, if_neg h]; rfl
section
variable {M : PS} {l : List Int}
theorem more_stop (h : M ++ moreT ((M.getD (M.length - 1) zp).2) = towT l) (h2 : ¬ 128 < ((M.getD (M.length - 1) zp).2).length) : M = towT l := by
  rw [← h, moreT, if_neg h2, List.append_nil]
theorem more_go (h : M ++ moreT ((M.getD (M.length - 1) zp).2) = towT l) (h2 : 128 < ((M.getD (M.length - 1) zp).2).length) : M ++ [((0 : Int), up ((M.getD (M.length - 1) zp).2))] ++ moreT (up ((M.getD (M.length - 1) zp).2)) = towT l := by
  rw [List.append_assoc, ← tow_more, ← h]
  congr 1
  rw [moreT, if_pos h2]
theorem more_len (h : M ++ moreT ((M.getD (M.length - 1) zp).2) = towT l) : M.length ≤ (towT l).length := by
  rw [← h, List.length_append]; omega
theorem more_small (hM : 0 < M.length) (h : M ++ moreT ((M.getD (M.length - 1) zp).2) = towT l) : ((M.getD (M.length - 1) zp).2).length ≤ l.length := by
  have h2 := more_len h
  have := tow_small l (M.length - 1) (by omega)
  rw [← h] at this
  rw [List.getD_eq_getElem?_getD, List.getElem?_append_left (by omega), ← List.getD_eq_getElem?_getD] at this
  exact this
end
end Go.PostP
namespace Go.PostP
open Go.Gw Go.NumP Go.LiveP Go.PackP
def advP (L : PS) (a d : Int) : Int := ((fge (dcs L) a.toNat d : Nat) : Int)
def nxtP (L : PS) (a : Int) : Int := if ((L.length : Nat) : Int) < a + 1 then ((L.length : Nat) : Int) else a + 1
def postP (L : PS) (a : Int) : Int × List Int := if 0 ≤ a ∧ a < ((L.length : Nat) : Int) then L.getD a.toNat zp else (0, [])
theorem postP_in {L : PS} {a : Int} (h : 0 ≤ a) (h2 : a < ((L.length : Nat) : Int)) : postP L a = L.getD a.toNat zp := if_pos ⟨h, h2⟩
theorem postP_out {L : PS} {a : Int} (h : a < 0 ∨ ((L.length : Nat) : Int) ≤ a) : postP L a = (0, []) := if_neg (by omega)
theorem advP_bd {L : PS} {a : Int} (d : Int) (h : a ≤ ((L.length : Nat) : Int)) : 0 ≤ advP L a d ∧ advP L a d ≤ ((L.length : Nat) : Int) := by
  unfold advP
  have := fge_bd (l := dcs L) (f := a.toNat) (d := d) (by rw [dcs_len]; omega)
  rw [dcs_len] at this
  omega
theorem nxtP_bd {L : PS} {a : Int} (h : -1 ≤ a) : 0 ≤ nxtP L a ∧ nxtP L a ≤ ((L.length : Nat) : Int) := by
  unfold nxtP; split <;> omega
end Go.PostP
namespace Go.Gw
open Go.PostP Go.PackP
/-- the rows of a cursor -/
abbrev curR (C E TE EI : TypeId) (c : Nat) (v t : Value) (L : PS) (X Y : Nat → Value) (a : Int) : List Row :=
  ⟨C, 3, obj c, 1, [v, t, .int .i64 a]⟩ :: ⟨E, 2, v, List.length L, pcells L X⟩ :: ⟨TE, 1, t, List.length (towT (dcs L)), tcells (towT (dcs L)) Y⟩ :: (atR EI X L 0 (List.length L) ++ atR EI Y (towT (dcs L)) 0 (List.length (towT (dcs L))))
theorem pull1 (X B : List Row) : (X ++ B).Perm (B ++ X) := List.perm_append_comm
theorem pullL (X B C : List Row) : (X ++ (B ++ C)).Perm (B ++ (X ++ C)) := by
  rw [← List.append_assoc, ← List.append_assoc]; exact (List.perm_append_comm).append_right C
theorem pullR (X A B : List Row) : (X ++ (A ++ B)).Perm (B ++ (X ++ A)) := by
  rw [← List.append_assoc]; exact List.perm_append_comm
theorem pullM (X A B C : List Row) : (X ++ ((A ++ B) ++ C)).Perm (B ++ (X ++ (A ++ C))) := by
  rw [List.append_assoc, ← List.append_assoc X, ← List.append_assoc X]
  exact pullL (X ++ A) B C
theorem pullZ (X A B C : List Row) : (X ++ ((B ++ A) ++ C)).Perm (B ++ (X ++ (A ++ C))) := by
  rw [List.append_assoc]; exact pullL X B (A ++ C)
end Go.Gw
namespace Go.PostP
open Go.Gw Go.NumP Go.LiveP Go.PackP
theorem asc_dcs {L : PS} (h : ckP (-1) L = 0) : Asc (dcs L) := by
  intro i j hij hj
  obtain ⟨m, rfl⟩ : ∃ m, j = i + m := ⟨j - i, by omega⟩
  clear hij
  induction m with
  | zero => exact Int.le_refl _
  | succ m ih =>
    have h1 := ih (by omega)
    rw [dcs_len] at hj
    have h2 := incP' h (i + m + 1) (by omega)
    rw [dcs_at (k := i + m) (by omega)] at h1
    rw [show i + (m + 1) = i + m + 1 by omega, dcs_at (k := i + m + 1) (by omega)]
    have h3 : (L.getD (i + m) zp).1 < (L.getD (i + m + 1) zp).1 := h2
    omega
end Go.PostP
namespace Go.PostP
open Go.Gw Go.NumP Go.LiveP Go.PackP
theorem adv_at {L : PS} {k : Nat} {b : Int} (hb : b.toNat = k) (hk : k < L.length) : advP L b (L.getD k zp).1 = ((k : Nat) : Int) := by
  unfold advP
  rw [hb, fge_ge (by rw [dcs_len]; exact hk) (by rw [dcs_at hk]; omega)]
theorem adv_next {L : PS} {k : Nat} (hc : ckP (-1) L = 0) (hk : k < L.length) : advP L ((k : Nat) : Int) ((L.getD k zp).1 + 1) = ((k + 1 : Nat) : Int) := by
  unfold advP
  rw [Int.toNat_natCast, fge_lt (by rw [dcs_len]; exact hk) (by rw [dcs_at hk]; omega)]
  by_cases h : k + 1 < L.length
  · have h3 : (L.getD k zp).1 < (L.getD (k + 1) zp).1 := incP' hc (k + 1) h
    rw [fge_ge (by rw [dcs_len]; exact h) (by rw [dcs_at h]; omega)]
  · rw [fge_end (by rw [dcs_len]; exact h)]
theorem adv_end {L : PS} {a : Int} (d : Int) (h : a = ((L.length : Nat) : Int)) : advP L a d = ((L.length : Nat) : Int) := by
  subst h
  unfold advP
  rw [Int.toNat_natCast, fge_end (by rw [dcs_len]; exact Nat.lt_irrefl _)]
theorem nxt_eq {L : PS} {a z : Int} (h : (a + 1 ≤ ((L.length : Nat) : Int) ∧ z = a + 1) ∨ (((L.length : Nat) : Int) ≤ a + 1 ∧ z = ((L.length : Nat) : Int))) : nxtP L a = z := by
  unfold nxtP; split <;> omega
theorem post_eq {L : PS} {k : Nat} (h : k < L.length) : postP L ((k : Nat) : Int) = L.getD k zp := by
  rw [postP_in (by omega) (by omega), Int.toNat_natCast]
theorem one_in {L : PS} {P Q : Int} (h : 0 ≤ P) (h2 : P < ((L.length : Nat) : Int)) (h3 : P = Q) : postP L P = L.getD Q.toNat zp := by
  subst h3; exact postP_in h h2
theorem bne_t {B : Prop} [Decidable B] (h : B) : false = (!(true == decide B)) := by rw [decide_eq_true h]; rfl
theorem bne_f {B : Prop} [Decidable B] (h : ¬ B) : false = (!(false == decide B)) := by rw [decide_eq_false h]; rfl
theorem bne_dec {A B : Prop} [Decidable A] [Decidable B] (h : A ↔ B) : false = (!(decide A == decide B)) := by
  have e : decide A = decide B := decide_eq_decide.2 h
  rw [e]; simp
end Go.PostP
namespace Go.Gw
open Go.PostP
theorem pcells_get {L : PS} {X : Nat → Value} {m : Nat} (h : m < L.length * 2) : (pcells L X)[m]? = some (if m % 2 = 0 then .int .i64 (L.getD (m / 2) zp).1 else X (m / 2)) := by
  have hj : m / 2 < L.length := by omega
  rcases Nat.mod_two_eq_zero_or_one m with e | e
  · have := p_at0 (X := X) hj
    rw [if_pos e, ← this]; congr 1; omega
  · have := p_at1 (X := X) hj
    rw [if_neg (by omega), ← this]; congr 1; omega
theorem pcells_set {L : PS} {X : Nat → Value} {j : Nat} {z : Int} (hj : j < L.length) : (pcells L X).set (j * 2 + 0) (.int .i64 z) = pcells (L.set j (z, (L.getD j zp).2)) X := by
  apply List.ext_getElem?
  intro m
  rw [List.getElem?_set]
  by_cases hm : m < L.length * 2
  · rw [pcells_get (L := L.set j _) (by rw [List.length_set]; exact hm)]
    by_cases e : j * 2 + 0 = m
    · rw [if_pos e, if_pos (by rw [pcells_len]; omega), if_pos (by omega)]
      have : m / 2 = j := by omega
      rw [this]
      simp [List.getD_eq_getElem?_getD, hj]
    · rw [if_neg e, pcells_get hm]
      by_cases e2 : m / 2 = j
      · rw [if_neg (by omega), if_neg (by omega)]
      · have : (L.set j (z, (L.getD j zp).2)).getD (m / 2) zp = L.getD (m / 2) zp := by
          rw [List.getD_eq_getElem?_getD, List.getElem?_set_ne (by omega), ← List.getD_eq_getElem?_getD]
        rw [this]
  · rw [if_neg (by omega), List.getElem?_eq_none (by rw [pcells_len]; omega), List.getElem?_eq_none (by rw [pcells_len, List.length_set]; omega)]
theorem p_storef {P : Program} {w w0 : World} {S : List Nat} {R : List Row} {E T : TypeId} (hE1 : P.cellsOf E = 1) (hM : Mem S w0 w R) (i : Nat) {v : Value} {n : Nat} {L : PS} {X : Nat → Value} (hr : R[i]? = some ⟨T, 2, v, n, pcells L X⟩)
    {j : Nat} {p : Addr} (hp : At v 2 j p) (hj : j < L.length) (z : Int) :
    ∃ w', (Instr.storeAt E (.pointer (some (p.add 0))) (.int .i64 z)).run P w = .ok () w' ∧ Mem S w0 w' (R.set i ⟨T, 2, v, n, pcells (L.set j (z, (L.getD j zp).2)) X⟩) := by
  have hn : n * 2 = L.length * 2 := by have := (hM.get i hr).1; rw [pcells_len] at this; exact this.symm
  obtain ⟨w', h2, h3⟩ := c_store (u := .int .i64 z) hE1 hM i hr (hp.cel.add 0) (by omega) rfl rfl
  rw [pcells_set hj] at h3
  exact ⟨w', h2, h3⟩
theorem atR_set {E : TypeId} {X : Nat → Value} {L : PS} {k i m : Nat} {p : Int × List Int} (h : k < i) : atR E X (L.set k p) i m = atR E X L i m :=
  atR_congr fun j a b => ⟨rfl, by rw [List.getD_eq_getElem?_getD, List.getElem?_set_ne (by omega), ← List.getD_eq_getElem?_getD]⟩
end Go.Gw
