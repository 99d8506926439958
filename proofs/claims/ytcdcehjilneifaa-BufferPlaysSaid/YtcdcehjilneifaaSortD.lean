/-
  slices.SortFunc over a row of the call's own whose elements have names, no two alike. No condition beyond those that each theorem names.
-/
import Derived.Test.YtcdcehjilneifaaSort
import Derived.Test.YtcdcehjilneifaaCmp
namespace Go.Gw
set_option linter.unusedVariables false
set_option linter.unusedSimpArgs false
open Go.Proofs Go.Shelf
theorem map_fin {β : Type} (L : List β) : (List.finRange L.length).map (fun i => L[i]) = L := by
  apply List.ext_getElem (by simp)
  intro i h1 h2
  simp
theorem recs_map {α β : Type} (enc : β → List Value) (f : α → β) (l : List α) : recs (fun x => enc (f x)) l = recs enc (l.map f) := by
  unfold recs
  rw [List.flatMap_map]
theorem cmp_nd {β : Type} {key : β → List UInt8} {L : List β} (hn : (L.map key).Nodup) {i j : Fin L.length} (h : key L[i] = key L[j]) : i = j := by
  have h2 : (L.map key)[i.1]'(by simp) = (L.map key)[j.1]'(by simp) := by simpa using h
  exact Fin.ext ((List.getElem_inj hn).1 h2)
section
variable {P : Program} {ρ : Ren} {S : List Nat} {w w0 : World} {v : Value} {R : List Row} {E : TypeId} {k : Nat}
theorem sort_rowD {β : Type} {enc : β → List Value} {key : β → List UInt8} {L : List β} (Ly : SlLaysF0.n6 P ρ) (aE : ∀ w, (isAgg (ρ.t 24)).run P w = .ok true w) (zE : ∀ w, (Go.sizeOf (ρ.t 24)).run P w = .ok k w) (hk : ∀ x, (enc x).length = k)
    (h1 : ∀ x ∈ L, ∀ v ∈ enc x, v.oneCell' = true) (hn : (L.map key).Nodup) (gf : Nat) (eg : ∀ args w, (callFunc gf args).run P w = .ok (.enter gf args) w)
    (hcmp : ∀ x ∈ L, ∀ y ∈ L, ∀ (W : World), Calls P gf #[.agg (enc x).toArray, .agg (enc y).toArray] W fun e w' => e = .returned (.int .i64 (Lib.compareBytes (key x) (key y))) ∧ Grew W w')
    (hM : Mem S w0 w (⟨E, k, v, L.length, recs enc L⟩ :: R)) (hsz : L.length < 4611686018427387904) :
    Calls P (ρ.f 6) #[v, .func (.func gf) #[] #[]] w fun e w' => e = .returned (.tuple #[]) ∧ Mem S w0 w' (⟨E, k, v, L.length, recs enc (isort key L)⟩ :: R) := by
  by_cases hL : L = []
  · subst hL
    have hown : w.ownsRow 0 E k v 0 [] := hM.get 0 rfl
    rcases hown.2 with ⟨e, _⟩ | ⟨g, cap, cur, e, _⟩
    · subst e
      refine (AnyF.slices_SortFunc_none Ly none 0 _ w).mono ?_
      rintro _ _ ⟨rfl, rfl⟩
      exact ⟨rfl, hM⟩
    · subst e
      refine (AnyF.slices_SortFunc_none Ly _ cap _ w).mono ?_
      rintro _ _ ⟨rfl, rfl⟩
      exact ⟨rfl, hM⟩
  · have hpos : 0 < L.length := List.length_pos_iff.2 hL
    letI : Inhabited (Fin L.length) := ⟨⟨0, hpos⟩⟩
    let f : Fin L.length → β := fun i => L[i]
    let cf : Fin L.length → Fin L.length → Int := fun i j => Lib.compareBytes (key (f i)) (key (f j))
    have hlt : ∀ i j, ltOf cf i j = Op.bytesLess (key (f i)) (key (f j)) := fun i j => cmp_less _ _
    have hmem : ∀ i, f i ∈ L := fun i => List.getElem_mem i.2
    have hT : ∀ i j, ltOf cf i j = false → ltOf cf j i = false → i = j := fun i j h h2 => cmp_nd hn (bless_tot ((hlt i j).symm.trans h) ((hlt j i).symm.trans h2))
    have hO : Sort.SWO (ltOf cf) := {
      irrefl := fun i => (hlt i i).trans (bless_irrefl _)
      trans := fun i j l h h2 => (hlt i l).trans (bless_trans ((hlt i j).symm.trans h) ((hlt j l).symm.trans h2))
      ntrans := fun i j l h h2 => by
        rw [hlt] at h h2 ⊢
        cases hc : Op.bytesLess (key (f i)) (key (f l)) with
        | false => rfl
        | true =>
          cases hd : Op.bytesLess (key (f j)) (key (f i)) with
          | false => rw [bless_tot h hd] at hc; rw [hc] at h2; cases h2
          | true => rw [bless_trans hd hc] at h2; cases h2 }
    have e0 : recs (fun i => enc (f i)) (List.finRange L.length) = recs enc L := by rw [recs_map, map_fin]
    have key1 := sort_row (enc := fun i => enc (f i)) (l := List.finRange L.length) Ly aE zE (fun i => hk _) (fun i => h1 _ (hmem i)) cf hO gf eg (fun i j W => hcmp _ (hmem i) _ (hmem j) W) hT (by rw [e0, List.length_finRange]; exact hM) (by rw [List.length_finRange]; exact hsz)
    refine key1.mono fun e w' ⟨h2, h3⟩ => ⟨h2, ?_⟩
    rw [List.length_finRange, recs_map] at h3
    have hp : (((List.finRange L.length).mergeSort fun x y => !(ltOf cf) y x).map f).Perm L := by
      have := (List.mergeSort_perm (List.finRange L.length) fun x y => !(ltOf cf) y x).map f
      rwa [show (List.finRange L.length).map f = L from map_fin L] at this
    have hs : Rise key (((List.finRange L.length).mergeSort fun x y => !(ltOf cf) y x).map f) := by
      have hpw := List.pairwise_mergeSort (le := fun x y => !(ltOf cf) y x) (fun a b c h h2 => by
        simp only [Bool.not_eq_true'] at h h2 ⊢
        exact hO.ntrans c b a h2 h) (fun a b => by
        cases h : ltOf cf b a with
        | false => simp
        | true => rw [hlt] at h; simp [hlt, bless_asymm h]) (List.finRange L.length)
      have hnd : ((List.finRange L.length).mergeSort fun x y => !(ltOf cf) y x).Nodup := ((List.mergeSort_perm _ _).nodup_iff).2 (List.nodup_finRange _)
      rw [Rise, List.pairwise_map]
      refine (hpw.and hnd).imp fun {a b} h => ?_
      cases hc : Op.bytesLess (key (f a)) (key (f b)) with
      | true => rfl
      | false => exact absurd (hT a b ((hlt a b).trans hc) (by simpa using h.1)) h.2
    rw [rise_uniq hs (isort_rise L hn) (hp.trans (isort_perm L).symm)] at h3
    exact h3
end
end Go.Gw
