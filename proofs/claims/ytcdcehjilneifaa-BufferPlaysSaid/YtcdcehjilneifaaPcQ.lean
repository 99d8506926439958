/-
  Buffers of pieces, as plain data. No condition beyond those that each theorem names.
-/
import Derived.Test.YtcdcehjilneifaaPcP
namespace Go.PcP
open Go.Gw Go.UtfP Go.TokP
set_option linter.unusedVariables false
set_option linter.unusedSimpArgs false
abbrev One1 (v : Value) : Prop := v.oneCell' = true ∧ v.cells = #[v] ∧ v.cells.toList = [v]
def OneZ (Z : List PZ) : Prop := ∀ z ∈ Z, One1 z.nums ∧ One1 z.words
theorem rdp_one {w : World} {p : Pc} {nv wv : Value} (h : RdP w p nv wv) : One1 nv ∧ One1 wv := by
  obtain ⟨h1, Y, _, h2, _⟩ := h
  exact ⟨rd_one3 h1, rd_one3 h2⟩
theorem rdp_frm {w : World} {p : Pc} {nv wv : Value} (h : RdP w p nv wv) : (∃ a m c, nv = .slice a m c) ∧ ∃ a m c, wv = .slice a m c := by
  obtain ⟨h1, Y, _, h2, _⟩ := h
  exact ⟨rd_form h1, rd_form h2⟩
/-- a copy of the fields' tokens, so far -/
def OwZ (EN EW ET : TypeId) (T : List Row) (Z : List PZ) : Prop := ∀ z ∈ Z, OwP EN EW ET T z.pc z.nums z.words
theorem OwZ.mono {EN EW ET : TypeId} {T T' : List Row} {Z : List PZ} (h : OwZ EN EW ET T Z) (ht : ∀ r ∈ T, r ∈ T') : OwZ EN EW ET T' Z := fun z hz => (h z hz).mono ht
theorem OwZ.one {EN EW ET : TypeId} {S : List Nat} {w0 w : World} {L T : List Row} {Z : List PZ} (h : OwZ EN EW ET T Z) (hM : Mem S w0 w L) (ht : ∀ r ∈ T, r ∈ L) : OneZ Z := fun z hz => by
  have hp := (h z hz).rd hM ht
  obtain ⟨h1, Y, _, h2, _⟩ := hp
  exact ⟨rd_one3 h1, rd_one3 h2⟩
theorem OneZ.cells {Z : List PZ} (h : OneZ Z) : ∀ u ∈ recs pzC Z, u.oneCell' = true := by
  intro u hu
  unfold recs at hu
  obtain ⟨z, hz, hu⟩ := List.mem_flatMap.1 hu
  simp [pzC] at hu
  rcases hu with rfl | rfl | rfl
  · rfl
  · exact (h z hz).1.1
  · exact (h z hz).2.1
/-- where a key's document is -/
def keyAt (ps : List Pc) (key : List UInt8) : Nat := ps.findIdx fun p => decide (p.key = key)
def hasK (ps : List Pc) (key : List UInt8) : Bool := decide (keyAt ps key < ps.length)
def placeI (ps : List Pc) (key : List UInt8) : Int := if keyAt ps key < ps.length then ((keyAt ps key : Nat) : Int) else -1
theorem keyAt_at {Z : List PZ} {key : List UInt8} {i : Nat} (h : i < Z.length) (he : (Z.getD i pz).pc.key = key) (hn : ∀ j, j < i → (Z.getD j pz).pc.key ≠ key) : keyAt (Z.map PZ.pc) key = i := by
  unfold keyAt
  have h' : i < (Z.map PZ.pc).length := by simpa using h
  rw [List.findIdx_eq h']
  refine ⟨by simpa [List.getD_eq_getElem?_getD, List.getElem?_eq_getElem h] using he, fun j hj => ?_⟩
  have := hn j hj
  rw [List.getD_eq_getElem?_getD, List.getElem?_eq_getElem (show j < Z.length by omega)] at this
  simpa using this
theorem keyAt_none {Z : List PZ} {key : List UInt8} (hn : ∀ j, j < Z.length → (Z.getD j pz).pc.key ≠ key) : keyAt (Z.map PZ.pc) key = (Z.map PZ.pc).length := by
  unfold keyAt
  rw [List.findIdx_eq_length]
  intro p hp
  obtain ⟨z, hz, rfl⟩ := List.mem_map.1 hp
  obtain ⟨j, hj, rfl⟩ := List.getElem_of_mem hz
  have := hn j hj
  rw [List.getD_eq_getElem?_getD, List.getElem?_eq_getElem hj] at this
  simpa using this
theorem place_at {Z : List PZ} {key : List UInt8} {i : Nat} (h : i < Z.length) (he : (Z.getD i pz).pc.key = key) (hn : ∀ j, j < i → (Z.getD j pz).pc.key ≠ key) : placeI (Z.map PZ.pc) key = (i : Int) := by
  unfold placeI
  rw [keyAt_at h he hn, if_pos (by simpa using h)]
theorem place_none {Z : List PZ} {key : List UInt8} (hn : ∀ j, j < Z.length → (Z.getD j pz).pc.key ≠ key) : placeI (Z.map PZ.pc) key = -1 := by
  unfold placeI
  rw [keyAt_none hn, if_neg (Nat.lt_irrefl _)]
theorem has_place {ps : List Pc} {key : List UInt8} : hasK ps key = !decide (placeI ps key < 0) := by
  unfold hasK placeI
  by_cases h : keyAt ps key < ps.length
  · rw [if_pos h, decide_eq_true h, decide_eq_false (by omega)]; rfl
  · rw [if_neg h, decide_eq_false h, decide_eq_true (by omega)]; rfl
def dropZ (key : List UInt8) (Z : List PZ) : List PZ := Z.eraseIdx (keyAt (Z.map PZ.pc) key)
def dropK (key : List UInt8) (ps : List Pc) : List Pc := ps.eraseIdx (keyAt ps key)
theorem dropZ_pc {key : List UInt8} {Z : List PZ} : (dropZ key Z).map PZ.pc = dropK key (Z.map PZ.pc) := by
  unfold dropZ dropK
  rw [List.eraseIdx_eq_take_drop_succ, List.eraseIdx_eq_take_drop_succ, List.map_append, List.map_take, List.map_drop]
theorem dropZ_sub {key : List UInt8} {Z : List PZ} : ∀ z ∈ dropZ key Z, z ∈ Z := fun z hz => (List.eraseIdx_sublist Z _).subset hz
theorem dropZ_no {key : List UInt8} {Z : List PZ} (h : ¬ keyAt (Z.map PZ.pc) key < (Z.map PZ.pc).length) : dropZ key Z = Z := by
  unfold dropZ
  exact List.eraseIdx_of_length_le (by simpa using h)
theorem dropZ_len {key : List UInt8} {Z : List PZ} (h : keyAt (Z.map PZ.pc) key < (Z.map PZ.pc).length) : (dropZ key Z).length = Z.length - 1 := by
  unfold dropZ
  rw [List.length_eraseIdx_of_lt (by simpa using h)]
theorem recs_erase {α : Type} {f : α → List Value} {k : Nat} (hf : ∀ x, (f x).length = k) (l : List α) (i : Nat) : (recs f l).take (i * k) ++ (recs f l).drop ((i + 1) * k) = recs f (l.eraseIdx i) := by
  rw [recs_take hf, recs_drop hf, recs_app, List.eraseIdx_eq_take_drop_succ]
/-- what is written and read in a moment -/
structure SmallP (p : Pc) : Prop where
  nums : p.nums.length ≤ 5864062014634
  words : p.words.length ≤ 3518437208780
  toks : ∀ x ∈ p.words, x.toks.length ≤ 5864062014634
/-- the names are texts that a machine holds -/
structure SmallN (p : Pc) : Prop where
  nums : ∀ x ∈ p.nums, x.name.length ≤ 9223372036854775807
  words : ∀ x ∈ p.words, x.name.length ≤ 9223372036854775807
theorem joinT {S : List Nat} {w0 w w' : World} {R A T : List Row} (h : Mem S w0 w (R ++ A)) (m : Mem [] w w' T) : Mem S w0 w' (R ++ (A ++ T)) := by
  refine (Mem.join h m).perm ?_
  rw [← List.append_assoc R]
  exact List.perm_append_comm
theorem joinT0 {S : List Nat} {w0 w w' : World} {R T : List Row} (h : Mem S w0 w R) (m : Mem [] w w' T) : Mem S w0 w' (R ++ T) := (Mem.join h m).perm List.perm_append_comm
theorem wz_snoc {Z Y : List WZ} {i : Nat} {v : Value} (h : Y.map WZ.wd = (Z.take i).map WZ.wd) (hi : i < Z.length) : (Y ++ [WZ.mk (Wd.mk (Z.getD i wz).wd.name (Z.getD i wz).wd.toks) v]).map WZ.wd = (Z.take (i + 1)).map WZ.wd := by
  rw [take_snoc' wz hi, List.map_append, List.map_append, h]; rfl
theorem pz_snoc {Z Y : List PZ} {i : Nat} {nv wv : Value} (h : Y.map PZ.pc = (Z.take i).map PZ.pc) (hi : i < Z.length) : (Y ++ [PZ.mk (Z.getD i pz).pc nv wv]).map PZ.pc = (Z.take (i + 1)).map PZ.pc := by
  rw [take_snoc' pz hi, List.map_append, List.map_append, h]; rfl
def putK (p : Pc) (ps : List Pc) : List Pc := if checkP p = true then dropK p.key ps ++ [p] else ps
theorem OwZ.snoc {EN EW ET : TypeId} {T : List Row} {Z : List PZ} {p : Pc} {nv wv : Value} (h : OwZ EN EW ET T Z) (hp : OwP EN EW ET T p nv wv) : OwZ EN EW ET T (Z ++ [PZ.mk p nv wv]) := by
  intro z hz
  rcases List.mem_append.1 hz with g | g
  · exact h z g
  · obtain rfl := List.mem_singleton.1 g; exact hp
theorem small_at {Z : List WZ} {p : Pc} {i : Nat} (h : SmallP p) (hZ : p.words = Z.map WZ.wd) (hi : i < Z.length) : (Z.getD i wz).wd.toks.length ≤ 5864062014634 := by
  refine h.toks _ ?_
  rw [hZ]
  exact List.mem_map_of_mem (getD_mem hi)
end Go.PcP
