/-
  From a row's reading of its arguments to what a walk is told of them. No condition.
-/
import Derived.Test.YtnhplkkbpmijdaaMem
import Derived.ProofKit
import Derived.SizedLaws
import Derived.OpenShut
import Derived.ChangeOld
import Derived.ShutString
namespace Go.Gw
set_option linter.unusedVariables false
set_option linter.unusedSimpArgs false
open Go.ChangeShapes Go.WideShapes Go.ChangeAt Go.RowKit
section
variable {H : Type} {enc : TypeId × Value → H} {P : Program} {W : World} {t e : TypeId} {ts : List TypeId} {ds : List (DataW H)}

/-- a slice's value reads as a list of numbers -/
theorem arg_ints {k : IntKind} {a : Option Addr} {len cap : Nat} {d : DataW H} {p : List MemPlace} (hu : P.underlying t = some (.slice e)) (he : P.underlying e = some (.int k)) (hc : P.cellsOf e = 1)
    (h : DataW.Trod enc P W 0 (fun _ => true) true t (.slice a len cap) d p) (hsz : (DataW.weightsEach P ts ds).all (· ≤ reachBytes) = true) {j : Nat} (ht : ts[j]? = some t) (hd : ds[j]? = some d) :
    ∃ l : List Int, l.length = len ∧ Rd W 1 (.slice a len cap) l.length (ivals k l) ∧ (∀ n ∈ l, (Lit.int k n).wf = true) ∧ l.length * P.bytesOf e ≤ 140737488351232 ∧ l.length ≤ 9223372036854775807 := by
  obtain ⟨fuel, hf⟩ := h
  rcases open_ints hu he hc hf with ⟨hcs, hx⟩ | ⟨x, l, c, zs, hcs, _, hl, hm, hz, hx, hcell, hwz⟩
  · simp [Value.cells] at hcs
    obtain ⟨rfl, rfl, rfl⟩ := hcs
    exact ⟨[], rfl, by simpa [ivals] using Rd.nil W 1, by simp, by simp, by simp⟩
  · simp [Value.cells] at hcs
    obtain ⟨rfl, rfl, rfl⟩ := hcs
    simp only [if_true] at hz
    simp only [Prod.mk.injEq] at hx
    have hs := sized_slice hsz ht (by rw [hd, hx.1]) hu
    simp only [lits, List.length_map, List.length_take, List.length_drop] at hs
    have hlen : (zs.take len).length = len := by rw [List.length_take]; omega
    refine ⟨zs.take len, hlen, ?_, fun n hn => hwz n (List.mem_of_mem_take hn), ?_, by simp only [maxLen] at hm; omega⟩
    · refine ⟨by simp [ivals], some x, cap, by rw [hlen], by omega, hm, (fun e => by cases e), fun ad e => ?_⟩
      simp only [Option.some.injEq] at e
      subst e
      by_cases hpos : zs.length = 0
      · have e0 : zs = [] := List.eq_nil_of_length_eq_zero hpos
        subst e0
        exact ⟨.inl (by simp [ivals]), fun j u hu => by simp [ivals] at hu⟩
      · have hsp : x.spot = none := by
          have := World.cell?_spot (hcell 0 (by omega))
          simpa [Addr.add] using this
        refine ⟨.inr hsp, fun j u hu => ?_⟩
        have hadd : x.add j = ⟨x.block, x.off + j, none⟩ := by obtain ⟨b, o, zz⟩ := x; simp only at hsp; subst hsp; unfold Addr.add; split <;> simp_all
        have hj : j < (zs.take len).length := by
          have := (List.getElem?_eq_some_iff.1 hu).1
          simpa [ivals] using this
        rw [ivals_at hj] at hu
        simp only [Option.some.injEq] at hu
        rw [← hadd, hcell j (by omega), ← hu]
        congr 2
        rw [List.getD_eq_getElem?_getD, List.getD_eq_getElem?_getD, List.getElem?_take, if_pos (by omega)]
    · rw [hlen]
      have : len * P.bytesOf e ≤ (min len zs.length + (zs.length - len)) * P.bytesOf e := Nat.mul_le_mul_right _ (by omega)
      have h2 : reachBytes = 140737488351232 := rfl
      omega

/-- the same of numbers from 0 on -/
theorem nat_ints {k : IntKind} {l : List Int} (h : ∀ n ∈ l, 0 ≤ n) : ∃ m : List Nat, m.length = l.length ∧ nvals k m = ivals k l ∧ ∀ j, ((m.getD j 0 : Nat) : Int) = l.getD j 0 := by
  refine ⟨l.map Int.toNat, by simp, ?_, fun j => ?_⟩
  · unfold nvals ivals
    rw [List.map_map]
    apply List.map_congr_left
    intro n hn
    have := h n hn
    simp only [Function.comp]
    congr 1
    omega
  · by_cases hj : j < l.length
    · have := h l[j] (List.getElem_mem hj)
      simp [List.getD_eq_getElem?_getD, List.getElem?_eq_getElem hj]
      omega
    · simp [List.getD_eq_getElem?_getD, List.getElem?_eq_none (show l.length ≤ j by omega)]
theorem wf_getD {k : IntKind} {l : List Int} (h : ∀ n ∈ l, (Lit.int k n).wf = true) (h0 : (Lit.int k 0).wf = true) (j : Nat) : (Lit.int k (l.getD j 0)).wf = true := by
  rw [List.getD_eq_getElem?_getD]
  by_cases hj : j < l.length
  · rw [List.getElem?_eq_getElem hj]; exact h _ (List.getElem_mem hj)
  · rw [List.getElem?_eq_none (by omega)]; exact h0
theorem arg_string {j : Nat} (hsz : (DataW.weightsEach P ts ds).all (· ≤ reachBytes) = true) (ht : ts[j]? = some t) {s : ByteArray} (hd : ds[j]? = some (.lit (.string s.data.toList))) : s.data.toList.length ≤ 140737488351232 :=
  sized_string hsz ht hd
end
end Go.Gw
