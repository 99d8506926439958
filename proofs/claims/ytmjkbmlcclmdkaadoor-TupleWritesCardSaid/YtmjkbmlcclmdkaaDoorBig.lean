/-
  What is laid behind a row of bytes, where the row is great. No condition beyond those that each theorem names.
-/
import Derived.Test.YtmjkbmlcclmdkaaDoorMem
import Derived.Laws.AppendOwn
namespace Go.Gw
set_option linter.unusedVariables false
set_option linter.unusedSimpArgs false
section
variable {P : Program} {t E : TypeId} {z : Value} {w w0 : World} {S : List Nat} {L : List Row}
theorem cap_fits {need old : Nat} (h : old < need) (hb : need ≤ 200000000000000) : Builtin.nextslicecap need old ≤ 281474976710656 := by
  unfold Builtin.nextslicecap
  split
  · omega
  · split
    · omega
    · rw [growBy_four]
      repeat' split
      all_goals omega
theorem big_new {xs : List Value} {n c : Nat} (zs : Array Value) (hz : zs.size = 1) (hx : xs.length = n) (hn : n ≤ c) (hc : c ≤ maxLen) (a : Array Value) (ha : a.toList = xs) :
    (w.drew.alloc (.cells (a ++ Builtin.zeroCells zs (c - n)) E)).ownsRow 0 E 1 (.slice (some ⟨w.heap.size, 0, none⟩) n c) n xs ∧ w.grownBy (w.drew.alloc (.cells (a ++ Builtin.zeroCells zs (c - n)) E)) none := by
  have hs : a.size = n := by rw [← Array.length_toList, ha, hx]
  refine ⟨⟨by rw [hx, Nat.mul_one], .inr ⟨w.heap.size, c, _, rfl, Nat.zero_le _, heap_alloc_new w.drew _, hn, hc, ?_, ?_⟩⟩, ⟨rfl, rfl, rfl, by simp, fun k hk _ => heap_alloc_old w.drew _ hk⟩⟩
  · rw [Array.size_append, size_zeroCells, hz, hs]; omega
  · rw [Array.toList_append, ha, Nat.mul_one]
    exact List.take_left' hx
theorem m_append_big (hT : SliceT P t E 1 1 z) (hM : Mem S w0 w L) (i : Nat) {v : Value} {n : Nat} {xs : List Value} (hr : L[i]? = some ⟨E, 1, v, n, xs⟩) {x : Value} {m : Nat} {news : List Value}
    (hx : Rd w 1 x m news) (h1 : ∀ u ∈ news, u.oneCell' = true) (hm : 0 < m) (hb : n + m ≤ 200000000000000) (ty : TypeId) :
    ∃ v' w', (Builtin.append_ #[t, t] ty #[v, x]).run P w = .ok v' w' ∧ Mem S w0 w' (L.set i ⟨E, 1, v', n + m, xs ++ news⟩) := by
  obtain ⟨ti, hi, hz, hk, hby⟩ := hT.info
  have hown : w.ownsRow 0 E 1 v n xs := hM.get i hr
  obtain ⟨hl, a, c, rfl, hmc, hc, hnil, hcell⟩ := hx
  cases a with
  | none => have := (hnil rfl).1; omega
  | some ad =>
    obtain ⟨hsp, hcs⟩ := hcell ad rfl
    have hl1 : news.length = m := by simpa using hl
    have hnews : ∀ j u, news[j]? = some u → w.cell? (ad.add j) = some u := by
      intro j u hu
      rcases hsp with rfl | hsp
      · cases hu
      · have hadd : ad.add j = ⟨ad.block, ad.off + j, none⟩ := by obtain ⟨x, y, zz⟩ := ad; simp only at hsp; subst hsp; unfold Addr.add; split <;> simp_all
        rw [hadd]; exact hcs j u hu
    have hxl : xs.length = n := by simpa using hown.1
    have hcat : (xs ++ news).length = n + m := by rw [List.length_append, hxl, hl1]
    have hml : n + m ≤ maxLen := by unfold maxLen; omega
    rcases hown.2 with ⟨rfl, rfl⟩ | ⟨g, cap, cur, rfl, _, hg, hnc, hcm, hsz, htk⟩
    · have hx0 : xs = [] := List.eq_nil_of_length_eq_zero hxl
      subst hx0
      have hrun := run_append_nil (P := P) w t ty E ti z hT.under hi hz ad m c news (by rw [hk]; exact hl) hnews hm (by omega) (by rw [hby]; omega)
      have hge := grownCap_ge w m 0 E
      have hcm := grownCap_le_maxLen w m 0 E (by unfold maxLen; omega)
      obtain ⟨b1, b2⟩ := big_new (w := w) (E := E) (xs := news) z.cells hT.cells hl1 hge hcm news.toArray (by simp)
      refine ⟨_, _, hrun, hM.grow i hr (.inl rfl) b2 _ _ _ (by rw [Nat.zero_add, List.nil_append]; exact b1) (fun b hb => .inr ?_)⟩
      simp [Value.ownBlock] at hb; omega
    · by_cases hroom : n + m ≤ cap
      · have hcs' : cur.size = cap := by simpa using hsz
        have hrun := run_append_room (P := P) w t ty E ti hT.under hi g n cap cur hg ad m c news (by rw [hk]; exact hl) hnews h1 hroom (by rw [hk]; omega)
        rw [hk, Nat.mul_one] at hrun
        refine ⟨_, _, hrun, ?_⟩
        have hg2 : w.grownBy (w.setRow g (cur.toList.take n ++ news ++ cur.toList.drop (n + news.length)).toArray) (some g) := ⟨rfl, rfl, rfl, by simp, fun k _ hk => setRow_other w g k _ (fun e => hk (by rw [e]))⟩
        refine hM.grow i hr (.inr rfl) (by exact hg2) _ _ _ ?_ (fun b hb => .inl hb)
        have htk' : cur.toList.take n = xs := by simpa using htk
        refine ⟨by rw [hcat, Nat.mul_one], .inr ⟨g, cap, _, rfl, Nat.zero_le _, setRow_heap w g cur _ E _ hg, hroom, hcm, ?_, ?_⟩⟩
        · simp; omega
        · rw [Nat.mul_one, htk']
          exact List.take_left' hcat
      · have holds : ∀ j u, xs[j]? = some u → w.cell? ((⟨g, 0, none⟩ : Addr).add j) = some u := hown.cells (g := g) rfl
        have hrun := run_append_grow (P := P) w t ty E ti z hT.under hi hz ⟨g, 0, none⟩ n cap xs (by rw [hk, Nat.mul_one]; exact hxl) holds ad m c news (by rw [hk]; exact hl) hnews (by omega) (by omega) (by rw [hby, Nat.mul_one]; exact cap_fits (by omega) hb)
        have hge := grownCap_ge w (n + m) cap E
        have hcm2 := grownCap_le_maxLen w (n + m) cap E hml
        obtain ⟨b1, b2⟩ := big_new (w := w) (E := E) (xs := xs ++ news) z.cells hT.cells hcat hge hcm2 (xs.toArray ++ news.toArray) (by simp)
        refine ⟨_, _, hrun, hM.grow i hr (.inl rfl) b2 _ _ _ b1 (fun b hb => .inr ?_)⟩
        simp [Value.ownBlock] at hb; omega
end
end Go.Gw
