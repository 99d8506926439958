/-
  The reference's way to a document's pieces: names put in among those that stand there. No condition beyond those that each theorem names.
-/
import Derived.Test.YtcdcehjilneifaaPcR
namespace Go.PcP
open Go.Gw Go.UtfP Go.TokP
set_option linter.unusedVariables false
set_option linter.unusedSimpArgs false
section
variable {β : Type} {key : β → List UInt8}
theorem ins_at {x : β} : ∀ {l : List β}, Rise key l → (∀ y ∈ l, key y ≠ key x) → ins key x l = l.take (l.countP fun y => Op.bytesLess (key y) (key x)) ++ x :: l.drop (l.countP fun y => Op.bytesLess (key y) (key x))
  | [], _, _ => rfl
  | y :: r, h, hn => by
    have hr := List.pairwise_cons.1 h
    unfold ins
    cases hc : Op.bytesLess (key x) (key y) with
    | true =>
      have h0 : (y :: r).countP (fun y => Op.bytesLess (key y) (key x)) = 0 := by
        rw [List.countP_eq_zero]
        intro z hz
        have hxz : Op.bytesLess (key x) (key z) = true := by
          rcases List.mem_cons.1 hz with g | g
          · rw [g]; exact hc
          · exact bless_trans hc (hr.1 z g)
        rw [bless_asymm hxz]; simp
      rw [h0, if_pos rfl]; rfl
    | false =>
      have hy : Op.bytesLess (key y) (key x) = true := by
        cases hd : Op.bytesLess (key y) (key x) with
        | true => rfl
        | false => exact absurd (bless_tot hd hc) (hn y (List.mem_cons_self ..))
      rw [if_neg (by simp), List.countP_cons_of_pos (by exact hy), ins_at hr.2 (fun z hz => hn z (List.mem_cons_of_mem _ hz))]
      rfl
end
section
variable {d : Dc} {i : Nat}
/-- how many of the first names are less -/
def lessF (d : Dc) (i k : Nat) : Nat := (d.fields.take k).countP fun f => Op.bytesLess f.name (d.fields.getD i fz).name
def lessN (d : Dc) (i k : Nat) : Nat := (d.nums.take k).countP fun f => Op.bytesLess f.name (d.nums.getD i nz).name
theorem lessF_le {k : Nat} : lessF d i k ≤ k := by unfold lessF; exact Nat.le_trans List.countP_le_length (by rw [List.length_take]; omega)
theorem lessN_le {k : Nat} : lessN d i k ≤ k := by unfold lessN; exact Nat.le_trans List.countP_le_length (by rw [List.length_take]; omega)
theorem lessF_yes {k : Nat} (hk : k < d.fields.length) (h : Op.bytesLess (d.fields.getD k fz).name (d.fields.getD i fz).name = true) : lessF d i k + 1 = lessF d i (k + 1) := by
  unfold lessF; rw [take_snoc' fz hk, List.countP_append, List.countP_cons_of_pos (by exact h)]; rfl
theorem lessF_no {k : Nat} (hk : k < d.fields.length) (h : Op.bytesLess (d.fields.getD k fz).name (d.fields.getD i fz).name = false) : lessF d i k = lessF d i (k + 1) := by
  unfold lessF; rw [take_snoc' fz hk, List.countP_append, List.countP_cons_of_neg (by rw [h]; simp)]; rfl
theorem lessN_yes {k : Nat} (hk : k < d.nums.length) (h : Op.bytesLess (d.nums.getD k nz).name (d.nums.getD i nz).name = true) : lessN d i k + 1 = lessN d i (k + 1) := by
  unfold lessN; rw [take_snoc' nz hk, List.countP_append, List.countP_cons_of_pos (by exact h)]; rfl
theorem lessN_no {k : Nat} (hk : k < d.nums.length) (h : Op.bytesLess (d.nums.getD k nz).name (d.nums.getD i nz).name = false) : lessN d i k = lessN d i (k + 1) := by
  unfold lessN; rw [take_snoc' nz hk, List.countP_append, List.countP_cons_of_neg (by rw [h]; simp)]; rfl
theorem fseen_mem {k : Nat} (hk : k < i) (hi : i < d.fields.length) : (d.fields.getD k fz).name ∈ fseen d i := by
  refine List.mem_map_of_mem ?_
  rw [List.getD_eq_getElem?_getD, List.getElem?_eq_getElem (by omega)]
  exact List.mem_take_iff_getElem.2 ⟨k, by omega, rfl⟩
theorem fseen_no (hi : i < d.fields.length) (h : ∀ k, k < i → (d.fields.getD k fz).name ≠ (d.fields.getD i fz).name) : (d.fields.getD i fz).name ∉ fseen d i := by
  intro hm
  obtain ⟨f, hf, he⟩ := List.mem_map.1 hm
  obtain ⟨k, hk, rfl⟩ := List.mem_take_iff_getElem.1 hf
  refine h k (by omega) ?_
  rw [← he, List.getD_eq_getElem?_getD, List.getElem?_eq_getElem (by omega)]; rfl
theorem nseen_mem {k : Nat} (hk : k < i) (hi : i < d.nums.length) : (d.nums.getD k nz).name ∈ nseen d i := by
  refine List.mem_map_of_mem ?_
  rw [List.getD_eq_getElem?_getD, List.getElem?_eq_getElem (by omega)]
  exact List.mem_take_iff_getElem.2 ⟨k, by omega, rfl⟩
theorem nseen_no (hi : i < d.nums.length) (h : ∀ k, k < i → (d.nums.getD k nz).name ≠ (d.nums.getD i nz).name) : (d.nums.getD i nz).name ∉ nseen d i := by
  intro hm
  obtain ⟨f, hf, he⟩ := List.mem_map.1 hm
  obtain ⟨k, hk, rfl⟩ := List.mem_take_iff_getElem.1 hf
  refine h k (by omega) ?_
  rw [← he, List.getD_eq_getElem?_getD, List.getElem?_eq_getElem (by omega)]; rfl
section
variable (hD : fitD d) (hi : i < d.fields.length) (hF : fieldsE (fseen d i) (d.fields.drop i) = fieldsE [] d.fields)
include hD hi hF
theorem rf_name (hn : nameP (d.fields.getD i fz).name = false) : docE d = 1 := by
  have e := fresh_name (seen := fseen d i) hn
  have f := hF.symm.trans ((fields_bad hi (by rw [e]; decide)).trans e)
  exact (doc_field hD (by rw [f]; decide)).trans f
theorem rf_there (hn : nameP (d.fields.getD i fz).name = true) {k : Nat} (hk : k < i) (he : (d.fields.getD k fz).name = (d.fields.getD i fz).name) : docE d = 12 := by
  have e := fresh_there (seen := fseen d i) hn (by rw [List.contains_iff_mem, ← he]; exact fseen_mem hk hi)
  have f := hF.symm.trans ((fields_bad hi (by rw [e]; decide)).trans e)
  exact (doc_field hD (by rw [f]; decide)).trans f
omit hD hF in
theorem rf_fresh (hn : nameP (d.fields.getD i fz).name = true) (h : ∀ k, k < i → (d.fields.getD k fz).name ≠ (d.fields.getD i fz).name) : freshE (fseen d i) (d.fields.getD i fz).name = 0 :=
  fresh_ok hn (by rw [Bool.eq_false_iff]; intro z; exact fseen_no hi h (List.contains_iff_mem.1 z))
theorem rf_tok (hn : nameP (d.fields.getD i fz).name = true) (h : ∀ k, k < i → (d.fields.getD k fz).name ≠ (d.fields.getD i fz).name) (ht : tokE (d.fields.getD i fz).text ≠ 0) : docE d = tokE (d.fields.getD i fz).text := by
  have f := hF.symm.trans (fields_tok hi (rf_fresh hi hn h) ht)
  exact (doc_field hD (by rw [f]; exact ht)).trans f
omit hD in
theorem rf_on (hn : nameP (d.fields.getD i fz).name = true) (h : ∀ k, k < i → (d.fields.getD k fz).name ≠ (d.fields.getD i fz).name) (ht : tokE (d.fields.getD i fz).text = 0) : fieldsE (fseen d (i + 1)) (d.fields.drop (i + 1)) = fieldsE [] d.fields :=
  (fields_on hi (rf_fresh hi hn h) ht).symm.trans hF
end
section
variable (hD : fitD d) (hFe : fieldsE [] d.fields = 0) (hi : i < d.nums.length) (hF : numsE (nseen d i) (d.nums.drop i) = numsE [] d.nums)
include hi
theorem rn_fresh (hn : nameP (d.nums.getD i nz).name = true) (h : ∀ k, k < i → (d.nums.getD k nz).name ≠ (d.nums.getD i nz).name) : freshE (nseen d i) (d.nums.getD i nz).name = 0 :=
  fresh_ok hn (by rw [Bool.eq_false_iff]; intro z; exact nseen_no hi h (List.contains_iff_mem.1 z))
include hF
theorem rn_on (hn : nameP (d.nums.getD i nz).name = true) (h : ∀ k, k < i → (d.nums.getD k nz).name ≠ (d.nums.getD i nz).name) : numsE (nseen d (i + 1)) (d.nums.drop (i + 1)) = numsE [] d.nums :=
  (nums_on hi (rn_fresh hi hn h)).symm.trans hF
include hD hFe
theorem rn_name (hn : nameP (d.nums.getD i nz).name = false) : docE d = 1 := by
  have e := fresh_name (seen := nseen d i) hn
  exact (doc_num hD hFe).trans (hF.symm.trans ((nums_bad hi (by rw [e]; decide)).trans e))
theorem rn_there (hn : nameP (d.nums.getD i nz).name = true) {k : Nat} (hk : k < i) (he : (d.nums.getD k nz).name = (d.nums.getD i nz).name) : docE d = 12 := by
  have e := fresh_there (seen := nseen d i) hn (by rw [List.contains_iff_mem, ← he]; exact nseen_mem hk hi)
  exact (doc_num hD hFe).trans (hF.symm.trans ((nums_bad hi (by rw [e]; decide)).trans e))
end
/-- one more name is put in -/
theorem rises_seen (hn : (fseen d i).Nodup) : Rise Wd.name (isort Wd.name ((d.fields.take i).map wordOf)) := isort_rise _ (by rw [List.map_map]; exact hn)
theorem wo_ins {Z : List WZ} {v : Value} (hi : i < d.fields.length) (hn : (fseen d i).Nodup) (h : (d.fields.getD i fz).name ∉ fseen d i) (hZ : Z.map WZ.wd = isort Wd.name ((d.fields.take i).map wordOf)) :
    (Z.take (lessF d i i) ++ [WZ.mk (Wd.mk (d.fields.getD i fz).name (tokL (d.fields.getD i fz).text)) v] ++ Z.drop (lessF d i i)).map WZ.wd = isort Wd.name ((d.fields.take (i + 1)).map wordOf) := by
  have e1 : lessF d i i = (isort Wd.name ((d.fields.take i).map wordOf)).countP fun y => Op.bytesLess (Wd.name y) (Wd.name (wordOf (d.fields.getD i fz))) := by
    rw [(isort_perm _).countP_eq, List.countP_map]; rfl
  have e2 : (d.fields.take i ++ [d.fields.getD i fz]).map wordOf = (d.fields.take i).map wordOf ++ [wordOf (d.fields.getD i fz)] := by rw [List.map_append]; rfl
  rw [take_snoc' fz hi, e2, isort_snoc, ins_at (rises_seen hn) (fun y hy => ?_), ← e1, ← hZ]
  · simp only [List.map_append, List.map_take, List.map_drop, List.append_assoc]; rfl
  · intro he
    apply h
    obtain ⟨f, hf, rfl⟩ := List.mem_map.1 ((isort_perm _).mem_iff.1 hy)
    rw [show (d.fields.getD i fz).name = (wordOf f).name from he.symm]
    exact List.mem_map_of_mem (f := Fd.name) hf
theorem nm_ins {Z : List Nm} (hi : i < d.nums.length) (hn : (nseen d i).Nodup) (h : (d.nums.getD i nz).name ∉ nseen d i) (hZ : Z = isort Nm.name (d.nums.take i)) :
    Z.take (lessN d i i) ++ [d.nums.getD i nz] ++ Z.drop (lessN d i i) = isort Nm.name (d.nums.take (i + 1)) := by
  have e1 : lessN d i i = (isort Nm.name (d.nums.take i)).countP fun y => Op.bytesLess (Nm.name y) (Nm.name (d.nums.getD i nz)) := by
    rw [(isort_perm _).countP_eq]; rfl
  subst hZ
  rw [take_snoc' nz hi, isort_snoc, ins_at (isort_rise _ hn) (fun y hy => ?_), ← e1]
  · simp only [List.append_assoc]; rfl
  · intro he
    apply h
    rw [show (d.nums.getD i nz).name = y.name from he.symm]
    exact List.mem_map_of_mem (f := Nm.name) ((isort_perm _).mem_iff.1 hy)
theorem fseen_nd (hi : i < d.fields.length) (hn : (fseen d i).Nodup) (h : (d.fields.getD i fz).name ∉ fseen d i) : (fseen d (i + 1)).Nodup := by
  rw [fseen_on hi, List.nodup_append]
  exact ⟨hn, by simp, fun a ha b hb e => h (by simp at hb; subst hb; exact e ▸ ha)⟩
theorem nseen_nd (hi : i < d.nums.length) (hn : (nseen d i).Nodup) (h : (d.nums.getD i nz).name ∉ nseen d i) : (nseen d (i + 1)).Nodup := by
  rw [nseen_on hi, List.nodup_append]
  exact ⟨hn, by simp, fun a ha b hb e => h (by simp at hb; subst hb; exact e ▸ ha)⟩
end
theorem wz_one' {S : List Nat} {w0 w : World} {L T : List Row} {ET : TypeId} {Z Y : List WZ} (hM : Mem S w0 w L) (ht : ∀ r ∈ T, r ∈ L) (hT : ∀ z ∈ Z, (⟨ET, 2, z.toks, z.wd.toks.length, recs tokc z.wd.toks⟩ : Row) ∈ T) (hs : ∀ z ∈ Y, z ∈ Z) : ∀ u ∈ recs wzC Y, u.oneCell' = true :=
  wz_one (fun z hz => Mem_rdm hM (ht _ (hT z (hs z hz))))
end Go.PcP
