/-
  The references' answers about pieces, as plain data. No condition beyond those that each theorem names.
-/
import Derived.Test.YtcdcehjilneifaaPcQ
namespace Go.PcP
open Go.Gw Go.UtfP Go.TokP
set_option linter.unusedVariables false
set_option linter.unusedSimpArgs false
abbrev tz : Tok := ⟨[], 0⟩
theorem ext_getD {α : Type} {l m : List α} (d : α) (h : l.length = m.length) (he : ∀ j, j < l.length → l.getD j d = m.getD j d) : l = m := by
  apply List.ext_getElem h
  intro j h1 h2
  have := he j h1
  rwa [List.getD_eq_getElem?_getD, List.getD_eq_getElem?_getD, List.getElem?_eq_getElem h1, List.getElem?_eq_getElem h2] at this
theorem ne_getD {α : Type} {l m : List α} (d : α) (k : Nat) (h : l.getD k d ≠ m.getD k d) : l ≠ m := fun e => h (by rw [e])
theorem nm_beq (x y : Nm) : ((sb x.name).toList == (sb y.name).toList && (x.bits == y.bits && true)) = decide (x = y) := by
  rw [sb_beq]
  obtain ⟨a, b⟩ := x; obtain ⟨c, d⟩ := y
  by_cases h1 : a = c <;> by_cases h2 : b = d <;> simp [h1, h2]
theorem fd_beq (x y : Fd) : ((sb x.name).toList == (sb y.name).toList && ((sb x.text).toList == (sb y.text).toList && true)) = decide (x = y) := by
  rw [sb_beq, sb_beq]
  obtain ⟨a, b⟩ := x; obtain ⟨c, d⟩ := y
  by_cases h1 : a = c <;> by_cases h2 : b = d <;> simp [h1, h2]
theorem tk_beq (x y : Tok) : ((sb x.t).toList == (sb y.t).toList && (x.a == y.a && true)) = decide (x = y) := by
  rw [sb_beq]
  obtain ⟨a, b⟩ := x; obtain ⟨c, d⟩ := y
  by_cases h1 : a = c <;> by_cases h2 : b = d <;> simp [h1, h2]
section
variable {p q : Pc} {Z Y : List WZ} {i : Nat}
theorem one_key (h : p.key ≠ q.key) : decide (p = q) = false := decide_eq_false (fun e => h (by rw [e]))
theorem one_nums (h : p.nums ≠ q.nums) : decide (p = q) = false := decide_eq_false (fun e => h (by rw [e]))
theorem one_len (hZ : p.words = Z.map WZ.wd) (hY : q.words = Y.map WZ.wd) (h : Z.length ≠ Y.length) : decide (p = q) = false := decide_eq_false (fun e => h (by
  have : (Z.map WZ.wd).length = (Y.map WZ.wd).length := by rw [← hZ, ← hY, e]
  simpa using this))
theorem map_getD (h : i < Z.length) : (Z.map WZ.wd).getD i wdz = (Z.getD i wz).wd := by
  rw [List.getD_eq_getElem?_getD, List.getD_eq_getElem?_getD, List.getElem?_map, List.getElem?_eq_getElem h]; rfl
theorem one_at (hZ : p.words = Z.map WZ.wd) (hY : q.words = Y.map WZ.wd) (hi : i < Z.length) (hj : i < Y.length) (h : (Z.getD i wz).wd ≠ (Y.getD i wz).wd) : decide (p = q) = false := decide_eq_false (fun e => h (by
  rw [← map_getD hi, ← map_getD hj, ← hZ, ← hY, e]))
theorem one_all (hZ : p.words = Z.map WZ.wd) (hY : q.words = Y.map WZ.wd) (hk : p.key = q.key) (hn : p.nums = q.nums) (hl : Z.length = Y.length) (h : ∀ j, j < Z.length → (Z.getD j wz).wd = (Y.getD j wz).wd) : decide (p = q) = true := by
  apply decide_eq_true
  obtain ⟨a, b, c⟩ := p; obtain ⟨a', b', c'⟩ := q
  simp only at hZ hY hk hn
  subst hk; subst hn; subst hZ; subst hY
  congr 1
  apply ext_getD wdz (by simpa using hl)
  intro j hj
  rw [List.length_map] at hj
  rw [map_getD hj, map_getD (by omega)]
  exact h j hj
theorem wd_ne1 {x y : Wd} (h : x.name ≠ y.name) : x ≠ y := fun e => h (by rw [e])
theorem wd_ne2 {x y : Wd} (h : x.toks ≠ y.toks) : x ≠ y := fun e => h (by rw [e])
theorem wd_eq {x y : Wd} (h : x.name = y.name) (h2 : x.toks = y.toks) : x = y := by
  obtain ⟨a, b⟩ := x; obtain ⟨c, d⟩ := y; simp only at h h2; subst h; subst h2; rfl
end
section
variable {Z Y : List PZ} {i : Nat}
theorem mapp_getD (h : i < Z.length) : (Z.map PZ.pc).getD i pcz = (Z.getD i pz).pc := by
  rw [List.getD_eq_getElem?_getD, List.getD_eq_getElem?_getD, List.getElem?_map, List.getElem?_eq_getElem h]; rfl
theorem same_len (h : Z.length ≠ Y.length) : decide (Z.map PZ.pc = Y.map PZ.pc) = false := decide_eq_false (fun e => h (by simpa using congrArg List.length e))
theorem same_at (hi : i < Z.length) (hj : i < Y.length) (h : (Z.getD i pz).pc ≠ (Y.getD i pz).pc) : decide (Z.map PZ.pc = Y.map PZ.pc) = false := decide_eq_false (fun e => h (by rw [← mapp_getD hi, ← mapp_getD hj, e]))
theorem same_all (hl : Z.length = Y.length) (h : ∀ j, j < Z.length → (Z.getD j pz).pc = (Y.getD j pz).pc) : decide (Z.map PZ.pc = Y.map PZ.pc) = true := by
  apply decide_eq_true
  apply ext_getD pcz (by simpa using hl)
  intro j hj
  rw [List.length_map] at hj
  rw [mapp_getD hj, mapp_getD (by omega)]
  exact h j hj
end
section
variable {d c : Dc}
theorem sd_key (h : d.key ≠ c.key) : decide (d = c) = false := decide_eq_false (fun e => h (by rw [e]))
theorem sd_fields (h : d.fields ≠ c.fields) : decide (d = c) = false := decide_eq_false (fun e => h (by rw [e]))
theorem sd_nums (h : d.nums ≠ c.nums) : decide (d = c) = false := decide_eq_false (fun e => h (by rw [e]))
theorem len_ne {α : Type} {l m : List α} (h : l.length ≠ m.length) : l ≠ m := fun e => h (by rw [e])
theorem sd_all (h1 : d.key = c.key) (h2 : d.fields = c.fields) (h3 : d.nums = c.nums) : decide (d = c) = true := by
  obtain ⟨x, y, z⟩ := d; obtain ⟨x', y', z'⟩ := c; simp only at h1 h2 h3; subst h1; subst h2; subst h3; exact decide_eq_true rfl
end
/-- without those of a key -/
def woZ (key : List UInt8) (Z : List PZ) : List PZ := Z.filter fun z => !decide (z.pc.key = key)
def woK (key : List UInt8) (ps : List Pc) : List Pc := ps.filter fun p => !decide (p.key = key)
theorem woZ_pc {key : List UInt8} {Z : List PZ} : (woZ key Z).map PZ.pc = woK key (Z.map PZ.pc) := by
  unfold woZ woK; rw [List.filter_map]; rfl
theorem woZ_sub {key : List UInt8} {Z : List PZ} : ∀ z ∈ woZ key Z, z ∈ Z := fun z hz => (List.mem_filter.1 hz).1
theorem wo_on {key : List UInt8} {Z : List PZ} {i : Nat} (hi : i < Z.length) (h : (Z.getD i pz).pc.key ≠ key) : woZ key (Z.take i) ++ [Z.getD i pz] = woZ key (Z.take (i + 1)) := by
  unfold woZ; rw [take_snoc' pz hi, List.filter_append, List.filter_cons_of_pos (by rw [decide_eq_false h]; rfl)]; rfl
theorem wo_off {key : List UInt8} {Z : List PZ} {i : Nat} (hi : i < Z.length) (h : (Z.getD i pz).pc.key = key) : woZ key (Z.take i) = woZ key (Z.take (i + 1)) := by
  unfold woZ; rw [take_snoc' pz hi, List.filter_append, List.filter_cons_of_neg (by rw [decide_eq_true h]; simp)]; simp
theorem wo_len {key : List UInt8} {Z : List PZ} : (woZ key Z).length ≤ Z.length := List.length_filter_le _ _
section
variable {α : Type} {f : α → List UInt8} {d : α} {l : List α} {i : Nat}
theorem mapf_getD (h : i < l.length) : (l.map f).getD i [] = f (l.getD i d) := by
  rw [List.getD_eq_getElem?_getD, List.getD_eq_getElem?_getD, List.getElem?_map, List.getElem?_eq_getElem h]; rfl
theorem gr_name (d : α) (h : i < l.length) (hn : nameP (f (l.getD i d)) = false) : risesF (prevN (l.map f) i) ((l.map f).drop i) = false := rises_name (by simpa using h) (by rw [mapf_getD (d := d) h]; exact hn)
theorem gr_low (d : α) (h : i < l.length) (h0 : 0 < i) (hn : Op.bytesLess (f (l.getD (i - 1) d)) (f (l.getD i d)) = false) : risesF (prevN (l.map f) i) ((l.map f).drop i) = false := rises_low (by simpa using h) h0 (by rw [mapf_getD (d := d) h, mapf_getD (d := d) (by omega)]; exact hn)
theorem gr_zero (d : α) (h : i < l.length) (h0 : ¬ 0 < i) (hn : nameP (f (l.getD i d)) = true) : risesF (prevN (l.map f) i) ((l.map f).drop i) = risesF (prevN (l.map f) (i + 1)) ((l.map f).drop (i + 1)) := rises_zero (by simpa using h) h0 (by rw [mapf_getD (d := d) h]; exact hn)
theorem gr_on (d : α) (h : i < l.length) (h0 : 0 < i) (hn : nameP (f (l.getD i d)) = true) (hl : Op.bytesLess (f (l.getD (i - 1) d)) (f (l.getD i d)) = true) : risesF (prevN (l.map f) i) ((l.map f).drop i) = risesF (prevN (l.map f) (i + 1)) ((l.map f).drop (i + 1)) := rises_on (by simpa using h) h0 (by rw [mapf_getD (d := d) h]; exact hn) (by rw [mapf_getD (d := d) h, mapf_getD (d := d) (by omega)]; exact hl)
theorem gr_all (h : ¬ i < l.length) : risesF (prevN (l.map f) i) ((l.map f).drop i) = true := rises_all (by simpa using h)
end
theorem namesP_no {l : List (List UInt8)} (h : risesF none l = false) : namesP l = false := by unfold namesP; rw [h]; rfl
theorem namesP_long {l : List (List UInt8)} (h : 8 < l.length) : namesP l = false := by unfold namesP; rw [decide_eq_false (by omega)]; simp
theorem namesP_yes {l : List (List UInt8)} (h : risesF none l = true) (k : l.length ≤ 8) : namesP l = true := by unfold namesP; rw [h, decide_eq_true k]; rfl
theorem check_nn {p : Pc} (h : namesP (p.nums.map Nm.name) = false) : checkP p = false := by unfold checkP; rw [h]; simp
theorem check_wn {p : Pc} (h : namesP (p.words.map Wd.name) = false) : checkP p = false := by unfold checkP; rw [h]; simp
theorem check_yes {p : Pc} (hk : 1 ≤ p.key.length ∧ p.key.length ≤ 32) (hw : p.words.all wordG = true) (h1 : namesP (p.nums.map Nm.name) = true) (h2 : namesP (p.words.map Wd.name) = true) : checkP p = true := by rw [check_rest hk hw, h1, h2]; rfl
theorem wd_names {p : Pc} {Z : List WZ} (hZ : p.words = Z.map WZ.wd) : p.words.map Wd.name = Z.map (fun z => z.wd.name) := by rw [hZ, List.map_map]; rfl
end Go.PcP
