/-
  Documents, their pieces: as plain data, how they lie in memory. No condition beyond those that each theorem names.
-/
import Derived.Test.YtcdcehjilneifaaTokP
import Derived.Test.YtcdcehjilneifaaUtfL
import Derived.Test.YtcdcehjilneifaaCmp
import Derived.Test.YtcdcehjilneifaaMap
namespace Go.PcP
open Go.Gw Go.UtfP Go.TokP
set_option linter.unusedVariables false
set_option linter.unusedSimpArgs false
/-- a field of a document -/
structure Fd where
  name : List UInt8
  text : List UInt8
deriving DecidableEq
structure Nm where
  name : List UInt8
  bits : Int
deriving DecidableEq
structure Wd where
  name : List UInt8
  toks : List Tok
deriving DecidableEq
structure Pc where
  key : List UInt8
  nums : List Nm
  words : List Wd
deriving DecidableEq
structure Dc where
  key : List UInt8
  fields : List Fd
  nums : List Nm
deriving DecidableEq
/-- a field's tokens as they lie among others: the tokens are another slice -/
structure WZ where
  wd : Wd
  toks : Value
structure PZ where
  pc : Pc
  nums : Value
  words : Value
def fz : Fd := ⟨[], []⟩
def nz : Nm := ⟨[], 0⟩
def wdz : Wd := ⟨[], []⟩
def pcz : Pc := ⟨[], [], []⟩
def wz : WZ := ⟨wdz, .slice none 0 0⟩
def pz : PZ := ⟨pcz, .slice none 0 0, .slice none 0 0⟩
def fdC (x : Fd) : List Value := [.string (sb x.name), .string (sb x.text)]
def nmC (x : Nm) : List Value := [.string (sb x.name), .int .u64 x.bits]
def wzC (x : WZ) : List Value := [.string (sb x.wd.name), x.toks]
def pzC (x : PZ) : List Value := [.string (sb x.pc.key), x.nums, x.words]
theorem fdC_len (x : Fd) : (fdC x).length = 2 := rfl
theorem nmC_len (x : Nm) : (nmC x).length = 2 := rfl
theorem wzC_len (x : WZ) : (wzC x).length = 2 := rfl
theorem pzC_len (x : PZ) : (pzC x).length = 3 := rfl
theorem fdC_one (x : Fd) : ∀ u ∈ fdC x, u.oneCell' = true := by
  intro u hu; simp [fdC] at hu; rcases hu with rfl | rfl <;> rfl
theorem nmC_one (x : Nm) : ∀ u ∈ nmC x, u.oneCell' = true := by
  intro u hu; simp [nmC] at hu; rcases hu with rfl | rfl <;> rfl
abbrev pn (b : Nat) : Value := .pointer (some ⟨b, 0, none⟩)
/-- the tokens of a field are read; so the fields of a document; so the pieces -/
def RdW (w : World) (ws : List Wd) (v : Value) : Prop := ∃ Z : List WZ, ws = Z.map WZ.wd ∧ Rd w 2 v Z.length (recs wzC Z) ∧ ∀ z ∈ Z, Rd w 2 z.toks z.wd.toks.length (recs tokc z.wd.toks)
def RdP (w : World) (p : Pc) (nv wv : Value) : Prop := Rd w 2 nv p.nums.length (recs nmC p.nums) ∧ RdW w p.words wv
def RdL (w : World) (ps : List Pc) (v : Value) : Prop := ∃ Z : List PZ, ps = Z.map PZ.pc ∧ Rd w 3 v Z.length (recs pzC Z) ∧ ∀ z ∈ Z, RdP w z.pc z.nums z.words
theorem RdW.kept {w w' : World} {ws : List Wd} {v : Value} (h : RdW w ws v) (k : Kept [] w w') : RdW w' ws v := by
  obtain ⟨Z, h1, h2, h3⟩ := h
  exact ⟨Z, h1, h2.kept0 k, fun z hz => (h3 z hz).kept0 k⟩
theorem RdP.kept {w w' : World} {p : Pc} {nv wv : Value} (h : RdP w p nv wv) (k : Kept [] w w') : RdP w' p nv wv := ⟨h.1.kept0 k, h.2.kept k⟩
theorem RdL.kept {w w' : World} {ps : List Pc} {v : Value} (h : RdL w ps v) (k : Kept [] w w') : RdL w' ps v := by
  obtain ⟨Z, h1, h2, h3⟩ := h
  exact ⟨Z, h1, h2.kept0 k, fun z hz => (h3 z hz).kept k⟩
theorem RdW.nil (w : World) : RdW w [] (.slice none 0 0) := ⟨[], rfl, Rd.nil w 2, fun z hz => by cases hz⟩
theorem RdP.nil (w : World) (k : List UInt8) : RdP w ⟨k, [], []⟩ (.slice none 0 0) (.slice none 0 0) := ⟨Rd.nil w 2, RdW.nil w⟩
/-- rows of the call's own hold them -/
def OwW (EW ET : TypeId) (T : List Row) (ws : List Wd) (v : Value) : Prop := ∃ Z : List WZ, ws = Z.map WZ.wd ∧ (⟨EW, 2, v, Z.length, recs wzC Z⟩ : Row) ∈ T ∧ ∀ z ∈ Z, (⟨ET, 2, z.toks, z.wd.toks.length, recs tokc z.wd.toks⟩ : Row) ∈ T
def OwP (EN EW ET : TypeId) (T : List Row) (p : Pc) (nv wv : Value) : Prop := (⟨EN, 2, nv, p.nums.length, recs nmC p.nums⟩ : Row) ∈ T ∧ OwW EW ET T p.words wv
theorem OwW.mono {EW ET : TypeId} {T T' : List Row} {ws : List Wd} {v : Value} (h : OwW EW ET T ws v) (ht : ∀ r ∈ T, r ∈ T') : OwW EW ET T' ws v := by
  obtain ⟨Z, h1, h2, h3⟩ := h
  exact ⟨Z, h1, ht _ h2, fun z hz => ht _ (h3 z hz)⟩
theorem OwP.mono {EN EW ET : TypeId} {T T' : List Row} {p : Pc} {nv wv : Value} (h : OwP EN EW ET T p nv wv) (ht : ∀ r ∈ T, r ∈ T') : OwP EN EW ET T' p nv wv := ⟨ht _ h.1, h.2.mono ht⟩
theorem Mem_rdm {S : List Nat} {w0 w : World} {L : List Row} (h : Mem S w0 w L) {r : Row} (hr : r ∈ L) : Rd w r.k r.v r.n r.xs := own_rd (h.owns r hr)
theorem OwW.rd {S : List Nat} {w0 w : World} {L T : List Row} {EW ET : TypeId} {ws : List Wd} {v : Value} (h : OwW EW ET T ws v) (hM : Mem S w0 w L) (ht : ∀ r ∈ T, r ∈ L) : RdW w ws v := by
  obtain ⟨Z, h1, h2, h3⟩ := h
  exact ⟨Z, h1, Mem_rdm hM (ht _ h2), fun z hz => Mem_rdm hM (ht _ (h3 z hz))⟩
theorem OwP.rd {S : List Nat} {w0 w : World} {L T : List Row} {EN EW ET : TypeId} {p : Pc} {nv wv : Value} (h : OwP EN EW ET T p nv wv) (hM : Mem S w0 w L) (ht : ∀ r ∈ T, r ∈ L) : RdP w p nv wv := ⟨Mem_rdm hM (ht _ h.1), h.2.rd hM ht⟩
theorem rd_one3 {w : World} {k n : Nat} {v : Value} {xs : List Value} (h : Rd w k v n xs) : v.oneCell' = true ∧ v.cells = #[v] ∧ v.cells.toList = [v] := by
  obtain ⟨_, a, c, rfl, _⟩ := h; exact ⟨rfl, rfl, rfl⟩
theorem rd_one' {w : World} {k n : Nat} {v : Value} {xs : List Value} (h : Rd w k v n xs) : v.oneCell' = true := by
  obtain ⟨_, a, c, rfl, _⟩ := h; rfl
theorem wz_one {w : World} {Z : List WZ} (h : ∀ z ∈ Z, Rd w 2 z.toks z.wd.toks.length (recs tokc z.wd.toks)) : ∀ u ∈ recs wzC Z, u.oneCell' = true := by
  intro u hu
  unfold recs at hu
  obtain ⟨z, hz, hu⟩ := List.mem_flatMap.1 hu
  simp [wzC] at hu
  rcases hu with rfl | rfl
  · rfl
  · exact rd_one' (h z hz)
theorem pz_one {w : World} {Z : List PZ} (h : ∀ z ∈ Z, RdP w z.pc z.nums z.words) : ∀ u ∈ recs pzC Z, u.oneCell' = true := by
  intro u hu
  unfold recs at hu
  obtain ⟨z, hz, hu⟩ := List.mem_flatMap.1 hu
  simp [pzC] at hu
  rcases hu with rfl | rfl | rfl
  · rfl
  · exact rd_one' (h z hz).1
  · obtain ⟨Y, _, hr, _⟩ := (h z hz).2; exact rd_one' hr
theorem getD_mem {α : Type} {l : List α} {i : Nat} {d : α} (h : i < l.length) : l.getD i d ∈ l := by
  rw [List.getD_eq_getElem?_getD, List.getElem?_eq_getElem h]; exact List.getElem_mem h
/-- whether a text may be a name -/
def nameP (s : List UInt8) : Bool := decide (1 ≤ s.length ∧ s.length ≤ 16) && s.all fun c => decide (97 ≤ c.toNat ∧ c.toNat ≤ 122 ∨ 48 ≤ c.toNat ∧ c.toNat ≤ 57 ∨ c.toNat = 95)
def okI (c : Int) : Prop := 97 ≤ c ∧ c ≤ 122 ∨ 48 ≤ c ∧ c ≤ 57 ∨ c = 95
theorem okI_iff {s : List UInt8} {j : Nat} (h : j < s.length) : okI (bl s j) ↔ (97 ≤ s[j].toNat ∧ s[j].toNat ≤ 122 ∨ 48 ≤ s[j].toNat ∧ s[j].toNat ≤ 57 ∨ s[j].toNat = 95) := by
  unfold okI bl
  rw [List.getD_eq_getElem?_getD, List.getElem?_eq_getElem h]
  simp only [Option.getD_some]
  omega
theorem name_yes {s : List UInt8} (h : 1 ≤ s.length ∧ s.length ≤ 16) (hz : ∀ j, j < s.length → okI (bl s j)) : nameP s = true := by
  unfold nameP
  rw [decide_eq_true h, Bool.true_and, List.all_eq_true]
  intro c hc
  obtain ⟨j, hj, rfl⟩ := List.getElem_of_mem hc
  exact decide_eq_true ((okI_iff hj).1 (hz j hj))
theorem name_no {s : List UInt8} {j : Nat} (h : j < s.length) (hn : ¬ okI (bl s j)) : nameP s = false := by
  cases e : nameP s with
  | false => rfl
  | true =>
    unfold nameP at e
    rw [Bool.and_eq_true, List.all_eq_true] at e
    exact absurd ((okI_iff h).2 (of_decide_eq_true (e.2 s[j] (List.getElem_mem h)))) hn
theorem name_len {s : List UInt8} (h : ¬ (1 ≤ s.length ∧ s.length ≤ 16)) : nameP s = false := by unfold nameP; rw [decide_eq_false h]; rfl
/-- names that may be, and rise: from a place on -/
def risesF (p : Option (List UInt8)) : List (List UInt8) → Bool
  | [] => true
  | n :: r => nameP n && (match p with | none => true | some q => Op.bytesLess q n) && risesF (some n) r
def namesP (l : List (List UInt8)) : Bool := risesF none l && decide (l.length ≤ 8)
def tokG (i : Nat) : List Tok → Bool
  | [] => true
  | t :: r => decide (t.a = (i : Int)) && decide (1 ≤ t.t.length) && decide (t.t.length ≤ 64) && tokG (i + 1) r
def wordG (x : Wd) : Bool := decide (x.toks.length ≤ 4096) && tokG 0 x.toks
def checkP (p : Pc) : Bool := decide (1 ≤ p.key.length ∧ p.key.length ≤ 32) && p.words.all wordG && namesP (p.nums.map Nm.name) && namesP (p.words.map Wd.name)
/-- what the closure answers that knows these names -/
def freshE (seen : List (List UInt8)) (s : List UInt8) : Int := if nameP s = false then 1 else if seen.contains s = true then 12 else 0
theorem fresh_name {seen : List (List UInt8)} {s : List UInt8} (h : nameP s = false) : freshE seen s = 1 := by unfold freshE; rw [if_pos h]
theorem fresh_there {seen : List (List UInt8)} {s : List UInt8} (h : nameP s = true) (k : seen.contains s = true) : freshE seen s = 12 := by unfold freshE; rw [if_neg (by rw [h]; simp), if_pos k]
theorem fresh_ok {seen : List (List UInt8)} {s : List UInt8} (h : nameP s = true) (k : seen.contains s = false) : freshE seen s = 0 := by unfold freshE; rw [if_neg (by rw [h]; simp), if_neg (by rw [k]; simp)]
def prevN (l : List (List UInt8)) (i : Nat) : Option (List UInt8) := if i = 0 then none else some (l.getD (i - 1) [])
section
variable {l : List (List UInt8)} {i : Nat}
theorem drop_at {α : Type} {l : List α} {i : Nat} (d : α) (h : i < l.length) : l.drop i = l.getD i d :: l.drop (i + 1) := by
  rw [List.drop_eq_getElem_cons h, List.getD_eq_getElem?_getD, List.getElem?_eq_getElem h]; rfl
theorem prev_succ : prevN l (i + 1) = some (l.getD i []) := by unfold prevN; simp
theorem rises_step (h : i < l.length) : risesF (prevN l i) (l.drop i) = (nameP (l.getD i []) && (match prevN l i with | none => true | some q => Op.bytesLess q (l.getD i [])) && risesF (prevN l (i + 1)) (l.drop (i + 1))) := by
  rw [drop_at [] h, prev_succ]; rfl
theorem rises_name (h : i < l.length) (hn : nameP (l.getD i []) = false) : risesF (prevN l i) (l.drop i) = false := by rw [rises_step h, hn]; rfl
theorem rises_low (h : i < l.length) (h0 : 0 < i) (hn : Op.bytesLess (l.getD (i - 1) []) (l.getD i []) = false) : risesF (prevN l i) (l.drop i) = false := by
  rw [rises_step h, show prevN l i = some (l.getD (i - 1) []) by unfold prevN; rw [if_neg (by omega)]]
  show (nameP (l.getD i []) && Op.bytesLess (l.getD (i - 1) []) (l.getD i []) && _) = false
  rw [hn, Bool.and_false, Bool.false_and]
theorem rises_zero (h : i < l.length) (h0 : ¬ 0 < i) (hn : nameP (l.getD i []) = true) : risesF (prevN l i) (l.drop i) = risesF (prevN l (i + 1)) (l.drop (i + 1)) := by
  rw [rises_step h, hn, show prevN l i = none by unfold prevN; rw [if_pos (by omega)]]
  simp
theorem rises_on (h : i < l.length) (h0 : 0 < i) (hn : nameP (l.getD i []) = true) (hl : Op.bytesLess (l.getD (i - 1) []) (l.getD i []) = true) : risesF (prevN l i) (l.drop i) = risesF (prevN l (i + 1)) (l.drop (i + 1)) := by
  rw [rises_step h, hn, show prevN l i = some (l.getD (i - 1) []) by unfold prevN; rw [if_neg (by omega)]]
  show (true && Op.bytesLess (l.getD (i - 1) []) (l.getD i []) && _) = _
  rw [hl]; rfl
theorem rises_all (h : ¬ i < l.length) : risesF (prevN l i) (l.drop i) = true := by rw [List.drop_eq_nil_of_le (by omega)]; rfl
end
section
variable {l : List Tok} {i : Nat}
theorem tokG_step (h : i < l.length) : tokG i (l.drop i) = (decide ((l.getD i ⟨[], 0⟩).a = (i : Int)) && decide (1 ≤ (l.getD i ⟨[], 0⟩).t.length) && decide ((l.getD i ⟨[], 0⟩).t.length ≤ 64) && tokG (i + 1) (l.drop (i + 1))) := by
  rw [drop_at ⟨[], 0⟩ h]; rfl
theorem tokG_all (h : ¬ i < l.length) : tokG i (l.drop i) = true := by rw [List.drop_eq_nil_of_le (by omega)]; rfl
theorem tokG_at (h : i < l.length) (h0 : (l.getD i ⟨[], 0⟩).a ≠ (i : Int)) : tokG i (l.drop i) = false := by rw [tokG_step h, decide_eq_false h0]; rfl
theorem tokG_one (h : i < l.length) (h0 : ¬ 1 ≤ (l.getD i ⟨[], 0⟩).t.length) : tokG i (l.drop i) = false := by rw [tokG_step h, decide_eq_false h0]; simp
theorem tokG_long (h : i < l.length) (h0 : ¬ (l.getD i ⟨[], 0⟩).t.length ≤ 64) : tokG i (l.drop i) = false := by rw [tokG_step h, decide_eq_false h0]; simp
theorem tokG_on (h : i < l.length) (h0 : (l.getD i ⟨[], 0⟩).a = (i : Int)) (h1 : 1 ≤ (l.getD i ⟨[], 0⟩).t.length) (h2 : (l.getD i ⟨[], 0⟩).t.length ≤ 64) : tokG i (l.drop i) = tokG (i + 1) (l.drop (i + 1)) := by
  rw [tokG_step h, decide_eq_true h0, decide_eq_true h1, decide_eq_true h2]; simp
end
section
variable {Z : List WZ} {i : Nat}
theorem words_on (h : i < Z.length) (ha : ((Z.take i).map WZ.wd).all wordG = true) (hw : wordG (Z.getD i wz).wd = true) : ((Z.take (i + 1)).map WZ.wd).all wordG = true := by
  have e : Z.take (i + 1) = Z.take i ++ [Z.getD i wz] := by rw [List.take_succ_eq_append_getElem h, List.getD_eq_getElem?_getD, List.getElem?_eq_getElem h]; rfl
  rw [e, List.map_append, List.all_append, ha, Bool.true_and]
  show (wordG (Z.getD i wz).wd && true) = true
  rw [hw]; rfl
theorem words_no (h : i < Z.length) (hw : wordG (Z.getD i wz).wd = false) : (Z.map WZ.wd).all wordG = false := by
  cases e : (Z.map WZ.wd).all wordG with
  | false => rfl
  | true =>
    rw [List.all_eq_true] at e
    have := e _ (List.mem_map_of_mem (getD_mem (d := wz) h))
    rw [hw] at this; cases this
theorem word_long {x : Wd} (h : x.toks.length > 4096) : wordG x = false := by unfold wordG; rw [decide_eq_false (by omega)]; rfl
theorem word_of {x : Wd} (h : ¬ x.toks.length > 4096) : wordG x = tokG 0 x.toks := by unfold wordG; rw [decide_eq_true (by omega)]; rfl
theorem take_snoc' {α : Type} {l : List α} {i : Nat} (d : α) (h : i < l.length) : l.take (i + 1) = l.take i ++ [l.getD i d] := by
  rw [List.take_succ_eq_append_getElem h, List.getD_eq_getElem?_getD, List.getElem?_eq_getElem h]; rfl
theorem take_all' {α : Type} {l : List α} {i : Nat} (h : ¬ i < l.length) : l.take i = l := List.take_of_length_le (by omega)
variable {p : Pc}
theorem check_key (h : ¬ (1 ≤ p.key.length ∧ p.key.length ≤ 32)) : checkP p = false := by unfold checkP; rw [decide_eq_false h]; rfl
theorem check_words (h : p.words.all wordG = false) : checkP p = false := by unfold checkP; rw [h]; simp
theorem check_rest (hk : 1 ≤ p.key.length ∧ p.key.length ≤ 32) (hw : p.words.all wordG = true) : checkP p = (namesP (p.nums.map Nm.name) && namesP (p.words.map Wd.name)) := by
  unfold checkP; rw [decide_eq_true hk, hw]; simp
end
def wordOf (f : Fd) : Wd := ⟨f.name, tokL f.text⟩
def fieldsE (seen : List (List UInt8)) : List Fd → Int
  | [] => 0
  | f :: r => if freshE seen f.name ≠ 0 then freshE seen f.name else if tokE f.text ≠ 0 then tokE f.text else fieldsE (seen ++ [f.name]) r
def numsE (seen : List (List UInt8)) : List Nm → Int
  | [] => 0
  | n :: r => if freshE seen n.name ≠ 0 then freshE seen n.name else numsE (seen ++ [n.name]) r
def docE (d : Dc) : Int := if d.key = [] then 1 else if 32 < d.key.length ∨ 8 < d.fields.length ∨ 8 < d.nums.length then 4 else if fieldsE [] d.fields ≠ 0 then fieldsE [] d.fields else numsE [] d.nums
def docP (d : Dc) : Pc := if docE d = 0 then ⟨d.key, isort Nm.name d.nums, isort Wd.name (d.fields.map wordOf)⟩ else ⟨[], [], []⟩
theorem doc_ok {d : Dc} (h : docE d = 0) : docP d = ⟨d.key, isort Nm.name d.nums, isort Wd.name (d.fields.map wordOf)⟩ := if_pos h
theorem doc_bad {d : Dc} (h : docE d ≠ 0) : docP d = ⟨[], [], []⟩ := if_neg h
section
variable {d : Dc} {i : Nat}
theorem doc_key (h : d.key = []) : docE d = 1 := if_pos h
theorem doc_great (h : d.key ≠ []) (k : 32 < d.key.length ∨ 8 < d.fields.length ∨ 8 < d.nums.length) : docE d = 4 := by unfold docE; rw [if_neg h, if_pos k]
abbrev fitD (d : Dc) : Prop := d.key ≠ [] ∧ d.key.length ≤ 32 ∧ d.fields.length ≤ 8 ∧ d.nums.length ≤ 8
theorem doc_field (h : fitD d) (k : fieldsE [] d.fields ≠ 0) : docE d = fieldsE [] d.fields := by unfold docE; rw [if_neg h.1, if_neg (by omega), if_pos k]
theorem doc_num (h : fitD d) (k : fieldsE [] d.fields = 0) : docE d = numsE [] d.nums := by unfold docE; rw [if_neg h.1, if_neg (by omega), if_neg (by omega)]
abbrev fseen (d : Dc) (i : Nat) : List (List UInt8) := (d.fields.take i).map Fd.name
abbrev nseen (d : Dc) (i : Nat) : List (List UInt8) := (d.nums.take i).map Nm.name
theorem fseen_on (h : i < d.fields.length) : fseen d (i + 1) = fseen d i ++ [(d.fields.getD i fz).name] := by unfold fseen; rw [take_snoc' fz h, List.map_append]; rfl
theorem nseen_on (h : i < d.nums.length) : nseen d (i + 1) = nseen d i ++ [(d.nums.getD i nz).name] := by unfold nseen; rw [take_snoc' nz h, List.map_append]; rfl
theorem fields_bad (h : i < d.fields.length) (k : freshE (fseen d i) (d.fields.getD i fz).name ≠ 0) : fieldsE (fseen d i) (d.fields.drop i) = freshE (fseen d i) (d.fields.getD i fz).name := by
  rw [drop_at fz h]; exact if_pos k
theorem fields_tok (h : i < d.fields.length) (k : freshE (fseen d i) (d.fields.getD i fz).name = 0) (t : tokE (d.fields.getD i fz).text ≠ 0) : fieldsE (fseen d i) (d.fields.drop i) = tokE (d.fields.getD i fz).text := by
  rw [drop_at fz h]; exact (if_neg (by omega)).trans (if_pos t)
theorem fields_on (h : i < d.fields.length) (k : freshE (fseen d i) (d.fields.getD i fz).name = 0) (t : tokE (d.fields.getD i fz).text = 0) : fieldsE (fseen d i) (d.fields.drop i) = fieldsE (fseen d (i + 1)) (d.fields.drop (i + 1)) := by
  rw [drop_at fz h, fseen_on h]; exact (if_neg (by omega)).trans (if_neg (by omega))
theorem fields_end (h : ¬ i < d.fields.length) : fieldsE (fseen d i) (d.fields.drop i) = 0 := by rw [List.drop_eq_nil_of_le (by omega)]; rfl
theorem nums_bad (h : i < d.nums.length) (k : freshE (nseen d i) (d.nums.getD i nz).name ≠ 0) : numsE (nseen d i) (d.nums.drop i) = freshE (nseen d i) (d.nums.getD i nz).name := by
  rw [drop_at nz h]; exact if_pos k
theorem nums_on (h : i < d.nums.length) (k : freshE (nseen d i) (d.nums.getD i nz).name = 0) : numsE (nseen d i) (d.nums.drop i) = numsE (nseen d (i + 1)) (d.nums.drop (i + 1)) := by
  rw [drop_at nz h, nseen_on h]; exact if_neg (by omega)
theorem nums_end (h : ¬ i < d.nums.length) : numsE (nseen d i) (d.nums.drop i) = 0 := by rw [List.drop_eq_nil_of_le (by omega)]; rfl
theorem fresh_zero {seen : List (List UInt8)} {s : List UInt8} (h : freshE seen s = 0) : nameP s = true ∧ s ∉ seen := by
  unfold freshE at h
  split at h
  · cases h
  · split at h
    · cases h
    · rename_i h1 h2; exact ⟨by simpa using h1, by simpa using h2⟩
theorem fields_nodup : ∀ {l : List Fd} {seen : List (List UInt8)}, fieldsE seen l = 0 → seen.Nodup → (seen ++ l.map Fd.name).Nodup
  | [], seen, _, h => by simpa using h
  | f :: r, seen, h, hn => by
    unfold fieldsE at h
    split at h
    · rename_i h1; exact absurd h h1
    · rename_i h1
      split at h
      · rename_i h2; exact absurd h h2
      · have h3 := (fresh_zero (by omega : freshE seen f.name = 0)).2
        have := fields_nodup h (by rw [List.nodup_append]; exact ⟨hn, by simp, fun a ha b hb e => h3 (by simp at hb; subst hb; exact e ▸ ha)⟩)
        rw [List.append_assoc] at this; exact this
theorem nums_nodup : ∀ {l : List Nm} {seen : List (List UInt8)}, numsE seen l = 0 → seen.Nodup → (seen ++ l.map Nm.name).Nodup
  | [], seen, _, h => by simpa using h
  | f :: r, seen, h, hn => by
    unfold numsE at h
    split at h
    · rename_i h1; exact absurd h h1
    · rename_i h1
      have h3 := (fresh_zero (by omega : freshE seen f.name = 0)).2
      have := nums_nodup h (by rw [List.nodup_append]; exact ⟨hn, by simp, fun a ha b hb e => h3 (by simp at hb; subst hb; exact e ▸ ha)⟩)
      rw [List.append_assoc] at this; exact this
theorem words_sorted {Z : List WZ} (h : Z.map WZ.wd = d.fields.map wordOf) : (isort (fun z : WZ => z.wd.name) Z).map WZ.wd = isort Wd.name (d.fields.map wordOf) := by
  rw [← h, isort_map]; rfl
theorem words_names {Z : List WZ} (h : Z.map WZ.wd = d.fields.map wordOf) : Z.map (fun z => z.wd.name) = d.fields.map Fd.name := by
  have := congrArg (List.map Wd.name) h
  rw [List.map_map, List.map_map] at this
  exact this
theorem words_snoc {Z : List WZ} {v : Value} (h : Z.map WZ.wd = (d.fields.take i).map wordOf) (hi : i < d.fields.length) : (Z ++ [WZ.mk (Wd.mk (d.fields.getD i fz).name (tokL (d.fields.getD i fz).text)) v]).map WZ.wd = (d.fields.take (i + 1)).map wordOf := by
  rw [take_snoc' fz hi, List.map_append, List.map_append, h]; rfl
end
end Go.PcP
