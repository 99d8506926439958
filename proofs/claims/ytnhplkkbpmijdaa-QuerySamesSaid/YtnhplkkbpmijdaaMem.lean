/-
  Memory in a walk: what reads as a list; what the call may write. No condition beyond those that each theorem names.
-/
import Derived.Test.YtnhplkkbpmijdaaFacts
import Derived.Below
import Derived.OwnWalk
import Derived.Laws.OwnMore
import Derived.Laws.MakeOwn
namespace Go.Gw
set_option linter.unusedVariables false
set_option linter.unusedSimpArgs false
open Go.RowKit

/-- a slice's value reads as these cells: n elements of k cells each -/
def Rd (w : World) (k : Nat) (v : Value) (n : Nat) (xs : List Value) : Prop :=
  xs.length = n * k ∧ ∃ a c, v = .slice a n c ∧ n ≤ c ∧ c ≤ maxLen ∧ (a = none → n = 0 ∧ c = 0) ∧
    ∀ ad, a = some ad → (xs = [] ∨ ad.spot = none) ∧ ∀ j u, xs[j]? = some u → w.cell? ⟨ad.block, ad.off + j, none⟩ = some u

/-- blocks that were there and are not in S are as they were -/
structure Kept (S : List Nat) (w w' : World) : Prop where
  os : w'.os = w.os
  tape : w'.tape = w.tape
  output : w'.output = w.output
  size : w.heap.size ≤ w'.heap.size
  block : ∀ b, b < w.heap.size → b ∉ S → w'.heap[b]? = w.heap[b]?

theorem Kept.refl (S : List Nat) (w : World) : Kept S w w := ⟨rfl, rfl, rfl, Nat.le_refl _, fun _ _ _ => rfl⟩
theorem Kept.trans {S : List Nat} {a b c : World} (h : Kept S a b) (k : Kept S b c) : Kept S a c :=
  ⟨k.os.trans h.os, k.tape.trans h.tape, k.output.trans h.output, Nat.le_trans h.size k.size, fun i hi hs => (k.block i (Nat.lt_of_lt_of_le hi h.size) hs).trans (h.block i hi hs)⟩
theorem Kept.below {w w' : World} (h : Kept [] w w') : Below w.heap.size w w' := ⟨h.os, h.tape, h.output, h.size, fun k hk => h.block k hk (by simp)⟩
theorem Kept.of_below {w w' : World} (h : Below w.heap.size w w') : Kept [] w w' := ⟨h.os, h.tape, h.output, h.size, fun k hk _ => h.block k hk⟩
theorem Kept.drewN (S : List Nat) (w : World) (m : Nat) : Kept S w (w.drewN m) := ⟨rfl, rfl, rfl, Nat.le_refl _, fun _ _ _ => rfl⟩
theorem Kept.mono {S T : List Nat} {w w' : World} (h : Kept S w w') (hs : ∀ b, b ∈ S → b ∈ T) : Kept T w w' :=
  ⟨h.os, h.tape, h.output, h.size, fun b hb ht => h.block b hb (fun x => ht (hs b x))⟩

theorem Rd.kept {S : List Nat} {w w' : World} {k n : Nat} {v : Value} {xs : List Value} (h : Rd w k v n xs) (hk : Kept S w w') (hb : ∀ b, v.ownBlock = some b → b ∉ S) : Rd w' k v n xs := by
  obtain ⟨hl, a, c, rfl, h1, h2, h3, h4⟩ := h
  refine ⟨hl, a, c, rfl, h1, h2, h3, fun ad e => ⟨(h4 ad e).1, fun j u hu => ?_⟩⟩
  have hc := (h4 ad e).2 j u hu
  have hlt := World.block_lt_of_cell? w _ hc
  have := hk.block ad.block hlt (hb _ (by subst e; rfl))
  rw [World.cell?_of_block (w := w) (a := ⟨ad.block, ad.off + j, none⟩) this]
  exact hc
theorem Rd.kept0 {w w' : World} {k n : Nat} {v : Value} {xs : List Value} (h : Rd w k v n xs) (hk : Kept [] w w') : Rd w' k v n xs := h.kept hk (fun _ _ => by simp)
theorem Rd.drewN {w : World} {k n : Nat} {v : Value} {xs : List Value} (h : Rd w k v n xs) (m : Nat) : Rd (w.drewN m) k v n xs := h

theorem Rd.nil (w : World) (k : Nat) : Rd w k (.slice none 0 0) 0 [] := ⟨by simp, none, 0, rfl, Nat.le_refl _, by simp, fun _ => ⟨rfl, rfl⟩, fun _ e => by cases e⟩

/-- a row of the call's own: the element's type, its cells, the value, how many, what they hold -/
structure Row where
  E : TypeId
  k : Nat
  v : Value
  n : Nat
  xs : List Value

def apartFrom (v : Value) (L : List Row) : Prop := ∀ r ∈ L, v.ownBlock = none ∨ v.ownBlock ≠ r.v.ownBlock
def Apart : List Row → Prop
  | [] => True
  | r :: L => apartFrom r.v L ∧ Apart L

/-- what the call may write: the rows L, apart from one another, in blocks of S or new since w0; all else that was there is as it was -/
structure Mem (S : List Nat) (w0 w : World) (L : List Row) : Prop where
  kept : Kept S w0 w
  owns : ∀ r ∈ L, w.ownsRow 0 r.E r.k r.v r.n r.xs
  apart : Apart L
  mine : ∀ r ∈ L, ∀ b, r.v.ownBlock = some b → b ∈ S ∨ w0.heap.size ≤ b

theorem Mem.start (w : World) : Mem [] w w [] := ⟨Kept.refl _ _, (fun _ h => by cases h), trivial, (fun _ h => by cases h)⟩
theorem Mem.below {w0 w : World} {L : List Row} (h : Mem [] w0 w L) : Below w0.heap.size w0 w := h.kept.below
theorem Mem.drewN {S : List Nat} {w0 w : World} {L : List Row} (h : Mem S w0 w L) (m : Nat) : Mem S w0 (w.drewN m) L := ⟨h.kept.trans (Kept.drewN S w m), h.owns, h.apart, h.mine⟩

theorem apart_iff {L : List Row} : Apart L ↔ ∀ (i j : Nat) r s, i < j → L[i]? = some r → L[j]? = some s → (r.v.ownBlock = none ∨ r.v.ownBlock ≠ s.v.ownBlock) := by
  induction L with
  | nil => simp [Apart]
  | cons x L ih =>
    simp only [Apart, ih]
    constructor
    · rintro ⟨h1, h2⟩ i j r s hij hr hs
      cases j with
      | zero => omega
      | succ j =>
        simp only [List.getElem?_cons_succ] at hs
        cases i with
        | zero =>
          simp only [List.getElem?_cons_zero, Option.some.injEq] at hr
          subst hr
          exact h1 s (List.mem_of_getElem? hs)
        | succ i =>
          simp only [List.getElem?_cons_succ] at hr
          exact h2 i j r s (by omega) hr hs
    · intro h
      refine ⟨fun r hr => ?_, fun i j r s hij hr hs => h (i + 1) (j + 1) r s (by omega) (by simpa using hr) (by simpa using hs)⟩
      obtain ⟨j, hj⟩ := List.mem_iff_getElem?.1 hr
      exact h 0 (j + 1) x r (by omega) (by simp) (by simpa using hj)

/-- a part of the rows -/
theorem Mem.sub {S : List Nat} {w0 w : World} {L M : List Row} (h : Mem S w0 w L) (hs : M.Sublist L) : Mem S w0 w M := by
  refine ⟨h.kept, fun r hr => h.owns r (hs.subset hr), ?_, fun r hr => h.mine r (hs.subset hr)⟩
  have := h.apart
  clear h
  induction hs with
  | slnil => trivial
  | cons a _ ih => exact ih this.2
  | cons_cons a hs' ih => exact ⟨fun r hr => this.1 r (hs'.subset hr), ih this.2⟩

/-- the row at a place, told anew (its value the same) -/
theorem Mem.get {S : List Nat} {w0 w : World} {L : List Row} (h : Mem S w0 w L) (i : Nat) {r : Row} (hr : L[i]? = some r) : w.ownsRow 0 r.E r.k r.v r.n r.xs := h.owns r (List.mem_of_getElem? hr)

theorem own_rd {w : World} {e : TypeId} {k n : Nat} {v : Value} {xs : List Value} (h : w.ownsRow 0 e k v n xs) : Rd w k v n xs := by
  refine ⟨h.1, ?_⟩
  rcases h.2 with ⟨rfl, rfl⟩ | ⟨g, cap, cur, rfl, _, hg, hn, hc, _, ht⟩
  · exact ⟨none, 0, rfl, Nat.le_refl _, by simp [maxLen], fun _ => ⟨rfl, rfl⟩, fun _ e => by cases e⟩
  · refine ⟨some ⟨g, 0, none⟩, cap, rfl, hn, hc, fun e => (by cases e), fun ad e => ?_⟩
    simp only [Option.some.injEq] at e
    subst e
    refine ⟨.inr rfl, fun j u hu => ?_⟩
    have := h.cells (g := g) rfl j u hu
    have hadd : (⟨g, 0, none⟩ : Addr).add j = ⟨g, 0 + j, none⟩ := by unfold Addr.add; split <;> simp_all
    rwa [hadd] at this
theorem Mem.rd {S : List Nat} {w0 w : World} {L : List Row} (h : Mem S w0 w L) (i : Nat) {r : Row} (hr : L[i]? = some r) : Rd w r.k r.v r.n r.xs := own_rd (h.get i hr)

theorem own_lt {w : World} {e : TypeId} {k n : Nat} {v : Value} {xs : List Value} (h : w.ownsRow 0 e k v n xs) : ∀ b, v.ownBlock = some b → b < w.heap.size := fun b hb => (h.lt b hb).2

/-- the world grows, writing at most to row i's block: the row at i is told anew, the others stay -/
theorem Mem.grow {S : List Nat} {w0 w w' : World} {L : List Row} (h : Mem S w0 w L) (i : Nat) {r : Row} (hr : L[i]? = some r) {row : Option Nat} (hrow : row = none ∨ row = r.v.ownBlock) (hg : w.grownBy w' row)
    (v' : Value) (n' : Nat) (xs' : List Value) (hown : w'.ownsRow 0 r.E r.k v' n' xs') (hv : ∀ b, v'.ownBlock = some b → r.v.ownBlock = some b ∨ w.heap.size ≤ b) :
    Mem S w0 w' (L.set i ⟨r.E, r.k, v', n', xs'⟩) := by
  have hi : i < L.length := (List.getElem?_eq_some_iff.1 hr).1
  have old : ∀ b, r.v.ownBlock = some b → b ∈ S ∨ w0.heap.size ≤ b := h.mine r (List.mem_of_getElem? hr)
  have others : ∀ j s, j ≠ i → L[j]? = some s → (s.v.ownBlock = none ∨ s.v.ownBlock ≠ r.v.ownBlock) := by
    intro j s hj hs
    have ap := apart_iff.1 h.apart
    rcases Nat.lt_or_gt_of_ne hj with hlt | hlt
    · exact ap j i s r hlt hs hr
    · have := ap i j r s hlt hr hs
      rcases this with h1 | h1
      · cases hsb : s.v.ownBlock with
        | none => exact .inl rfl
        | some b => exact .inr (by rw [h1]; simp)
      · exact .inr (Ne.symm h1)
  have hne : ∀ b, b ∉ S → b < w0.heap.size → some b ≠ row := by
    intro b hbs hb0 e
    rcases hrow with e' | e'
    · rw [e'] at e; cases e
    · rw [e'] at e
      rcases old b e.symm with hs | hs
      · exact hbs hs
      · omega
  refine ⟨⟨hg.os.trans h.kept.os, hg.tape.trans h.kept.tape, hg.output.trans h.kept.output, Nat.le_trans h.kept.size hg.size, fun b hb hbs => ?_⟩, ?_, ?_, ?_⟩
  · rw [hg.block b (Nat.lt_of_lt_of_le hb h.kept.size) (hne b hbs hb)]
    exact h.kept.block b hb hbs
  · intro s hs
    obtain ⟨j, hj⟩ := List.mem_iff_getElem?.1 hs
    rw [List.getElem?_set] at hj
    split at hj
    · rename_i e
      subst e
      try rw [if_pos hi] at hj
      simp only [Option.some.injEq] at hj
      subst hj
      exact hown
    · rename_i e
      have ho := h.owns s (List.mem_of_getElem? hj)
      refine ho.kept hg ?_
      rcases others j s (fun x => e x.symm) hj with hb | hb
      · exact .inl hb
      · rcases hrow with er | er
        · rw [er]
          cases hsb : s.v.ownBlock with
          | none => exact .inl rfl
          | some b => exact .inr (by simp)
        · rw [er]; exact .inr hb
  · rw [apart_iff]
    intro a b x y hab hx hy
    rw [List.getElem?_set] at hx hy
    -- the value at place i lies in its old block or in a new one
    have far : ∀ j s, j ≠ i → L[j]? = some s → v'.ownBlock = none ∨ s.v.ownBlock = none ∨ v'.ownBlock ≠ s.v.ownBlock := by
      intro j s hj hs
      cases hvb : v'.ownBlock with
      | none => exact .inl rfl
      | some c =>
        right
        rcases hv c hvb with e | e
        · rcases others j s hj hs with h1 | h1
          · exact .inl h1
          · exact .inr (by rw [← e]; exact Ne.symm h1)
        · cases hsb : s.v.ownBlock with
          | none => exact .inl rfl
          | some d =>
            have := own_lt (h.owns s (List.mem_of_getElem? hs)) d hsb
            exact .inr (by simp only [ne_eq, Option.some.injEq]; omega)
    split at hx
    · rename_i e
      subst e
      try rw [if_pos hi] at hx
      simp only [Option.some.injEq] at hx
      subst hx
      rw [if_neg (by omega)] at hy
      rcases far b y (by omega) hy with h1 | h1 | h1
      · exact .inl h1
      · cases hvb : v'.ownBlock with
        | none => exact .inl rfl
        | some c => exact .inr (by simp [h1])
      · exact .inr h1
    · rename_i e
      split at hy
      · rename_i e2
        subst e2
        try rw [if_pos hi] at hy
        simp only [Option.some.injEq] at hy
        subst hy
        rcases far a x (by omega) hx with h1 | h1 | h1
        · cases hxb : x.v.ownBlock with
          | none => exact .inl rfl
          | some c => exact .inr (by simp [h1])
        · exact .inl h1
        · exact .inr (Ne.symm h1)
      · exact apart_iff.1 h.apart a b x y hab hx hy
  · intro s hs b hb
    obtain ⟨j, hj⟩ := List.mem_iff_getElem?.1 hs
    rw [List.getElem?_set] at hj
    split at hj
    · rename_i e
      subst e
      try rw [if_pos hi] at hj
      simp only [Option.some.injEq] at hj
      subst hj
      rcases hv b hb with e | e
      · exact old b e
      · exact .inr (Nat.le_trans h.kept.size e)
    · exact h.mine s (List.mem_of_getElem? hj) b hb

/-- a new row -/
theorem Mem.push {S : List Nat} {w0 w w' : World} {L : List Row} (h : Mem S w0 w L) (hg : w.grownBy w' none) (r : Row) (hown : w'.ownsRow 0 r.E r.k r.v r.n r.xs) (hv : ∀ b, r.v.ownBlock = some b → w.heap.size ≤ b) :
    Mem S w0 w' (r :: L) := by
  refine ⟨h.kept.trans ⟨hg.os, hg.tape, hg.output, hg.size, fun b hb _ => hg.block b hb (by simp)⟩, ?_, ⟨?_, h.apart⟩, ?_⟩
  · intro s hs
    cases hs with
    | head => exact hown
    | tail _ hs =>
      refine (h.owns s hs).kept hg ?_
      cases hsb : s.v.ownBlock with
      | none => exact .inl rfl
      | some b => exact .inr (by simp)
  · intro s hs
    cases hrb : r.v.ownBlock with
    | none => exact .inl rfl
    | some b =>
      right
      have h1 := hv b hrb
      intro e
      have := own_lt (h.owns s hs) b e.symm
      omega
  · intro s hs b hb
    cases hs with
    | head => exact .inr (Nat.le_trans h.kept.size (hv b hb))
    | tail _ hs => exact h.mine s hs b hb

/-- the world grows and writes to none of the rows -/
theorem Mem.same {S : List Nat} {w0 w w' : World} {L : List Row} (h : Mem S w0 w L) (hg : w.grownBy w' none) : Mem S w0 w' L := by
  refine ⟨h.kept.trans ⟨hg.os, hg.tape, hg.output, hg.size, fun b hb _ => hg.block b hb (by simp)⟩, fun s hs => ?_, h.apart, h.mine⟩
  refine (h.owns s hs).kept hg ?_
  cases hsb : s.v.ownBlock with
  | none => exact .inl rfl
  | some b => exact .inr (by simp)
theorem Mem.ext {S : List Nat} {w0 w w' : World} {L : List Row} (h : Mem S w0 w L) (hk : Kept [] w w') : Mem S w0 w' L :=
  h.same ⟨hk.os, hk.tape, hk.output, hk.size, fun b hb _ => hk.block b hb (by simp)⟩

/-! ### slices' types -/
structure SliceT (P : Program) (t E : TypeId) (k b : Nat) (z : Value) : Prop where
  under : P.underlying t = some (.slice E)
  info : ∃ i, P.info? E = some i ∧ i.zero = some z ∧ i.size = k ∧ i.bytes = b
  cells : z.cells.size = k
  pos : 0 < k

section
variable {P : Program} {t E : TypeId} {k b : Nat} {z : Value} {w w0 : World} {S : List Nat} {L : List Row}

theorem SliceT.size (h : SliceT P t E k b z) (W : World) : (sizeOf E).run P W = .ok k W := by
  obtain ⟨i, hi, _, hk, _⟩ := h.info
  simp [sizeOf, typeInfo, hi, hk]

theorem ownsRow_old {w : World} {cs : Array Value} {e : TypeId} {k n : Nat} (hs : cs.size = n * k) (hm : n ≤ maxLen) :
    (w.alloc (.cells cs e)).ownsRow 0 e k (.slice (some ⟨w.heap.size, 0, none⟩) n n) n cs.toList := by
  refine ⟨by simp [hs], .inr ⟨w.heap.size, n, cs, rfl, Nat.zero_le _, heap_alloc_new w _, Nat.le_refl _, hm, hs, ?_⟩⟩
  rw [List.take_of_length_le (by simp [hs])]

/-- a slice written out -/
theorem m_lit (hT : SliceT P t E k b z) (hM : Mem S w0 w L) {n : Nat} {parts : Array (Nat × Value)} {cs : List Value} (hbig : n * k ≤ 16777216)
    (hf : Instr.fill (fun i => some (i * k, k)) ((Array.range (n * k)).map (z.cells[· % z.cells.size]!)) parts.toList = some cs.toArray) (hl : cs.length = n * k) :
    ∃ v w', (Instr.buildSlice t n parts).run P w = .ok v w' ∧ Mem S w0 w' (⟨E, k, v, n, cs⟩ :: L) := by
  obtain ⟨i, hi, hz, hk, _⟩ := hT.info
  have hrun : (Instr.buildSlice t n parts).run P w = .ok (.slice (some ⟨w.heap.size, 0, none⟩) n n) (w.alloc (.cells cs.toArray E)) := by
    have hbig' : ¬ 16777216 < n * k := by omega
    by_cases h0 : n * k = 0
    · have hf' := hf
      rw [h0] at hf'
      have e1 : ∀ f : Nat → Value, (Array.range 0).map f = #[] := fun f => by simp
      rw [e1] at hf'
      simp [Instr.buildSlice, run_underlying hT.under, sizeOf, typeInfo, hi, hk, h0, Array.range_zero', hf', newRow]
    · simp [Instr.buildSlice, run_underlying hT.under, sizeOf, typeInfo, hi, hk, hbig', h0, zeroValue, hz, hf, newRow]
  have hn : n ≤ maxLen := by
    have : n ≤ n * k := Nat.le_mul_of_pos_right _ hT.pos
    simp only [maxLen]; omega
  refine ⟨_, _, hrun, hM.push (World.grownBy_alloc w _ none) ⟨E, k, _, n, cs⟩ ?_ ?_⟩
  · have := ownsRow_old (w := w) (cs := cs.toArray) (e := E) (k := k) (n := n) (by simpa using hl) hn
    simpa using this
  · intro c hc
    simp [Value.ownBlock] at hc
    omega

theorem rd_len {v : Value} {n : Nat} {xs : List Value} (h : Rd w k v n xs) : n ≤ maxLen := by
  obtain ⟨_, a, c, _, h1, h2, _⟩ := h; omega

theorem append_place (hT : SliceT P t E k b z) {v : Value} {n : Nat} {xs : List Value} (hown : w.ownsRow 0 E k v n xs) {ad : Addr} {m c : Nat} {news : List Value} (hl : news.length = m * k)
    (hnews : ∀ j u, news[j]? = some u → w.cell? (ad.add j) = some u) (h1 : ∀ u ∈ news, u.oneCell' = true) (hbytes : (n + m) * b ≤ 140737488355328) (hlen : n + m ≤ 9223372036854775807) {ty : TypeId} {v' : Value} {w' : World}
    (hrun : (Builtin.append_ #[t, t] ty #[v, .slice (some ad) m c]).run P w = .ok v' w') : v'.ownBlock = v.ownBlock ∨ ∀ d, v'.ownBlock = some d → w.heap.size ≤ d := by
  obtain ⟨ti, hi, hz, hk, hby⟩ := hT.info
  subst hk
  subst hby
  rcases hown.2 with ⟨rfl, rfl⟩ | ⟨g, cap, cur, rfl, _, hg, hnc, hcm, hsz, htake⟩
  · by_cases hm : m = 0
    · subst hm
      have hn : news = [] := List.eq_nil_of_length_eq_zero (by simpa using hl)
      subst hn
      have e : (Builtin.append_ #[t, t] ty #[.slice none 0 0, .slice (some ad) 0 c]).run P w = .ok (.slice none 0 0) w := by
        simp [Builtin.append_, run_underlying hT.under, sizeOf, typeInfo, hi, Builtin.lenOf, Builtin.firstCells, loadCells, loadCellsFrom]
      rw [e] at hrun
      simp only [Result.ok.injEq] at hrun
      exact .inl (by rw [← hrun.1])
    · have hr := run_append_nil (P := P) w t ty E ti z hT.under hi hz ad m c news hl hnews (by omega) (by omega) (by simp only [Nat.zero_add] at hbytes; omega)
      rw [hr] at hrun
      simp only [Result.ok.injEq] at hrun
      refine .inr fun d hd => ?_
      rw [← hrun.1] at hd
      simp [Value.ownBlock] at hd
      omega
  · by_cases hroom : n + m ≤ cap
    · have hfit : n * ti.size + news.length ≤ cur.size := by rw [hl, hsz, ← Nat.add_mul]; exact Nat.mul_le_mul_right _ hroom
      have hr := run_append_room (P := P) w t ty E ti hT.under hi g n cap cur hg ad m c news hl hnews h1 hroom hfit
      rw [hr] at hrun
      simp only [Result.ok.injEq] at hrun
      exact .inl (by rw [← hrun.1]; rfl)
    · have holds : ∀ j u, xs[j]? = some u → w.cell? ((⟨g, 0, none⟩ : Addr).add j) = some u := hown.cells (g := g) rfl
      have hr := run_append_grow (P := P) w t ty E ti z hT.under hi hz ⟨g, 0, none⟩ n cap xs hown.1 holds ad m c news hl hnews (by omega) (by omega) (growslice_fits (by omega) hbytes)
      rw [hr] at hrun
      simp only [Result.ok.injEq] at hrun
      refine .inr fun d hd => ?_
      rw [← hrun.1] at hd
      simp [Value.ownBlock] at hd
      omega

/-- append to a row of the call's own -/
theorem m_append (hT : SliceT P t E k b z) (hM : Mem S w0 w L) (i : Nat) {v : Value} {n : Nat} {xs : List Value} (hr : L[i]? = some ⟨E, k, v, n, xs⟩) {x : Value} {m : Nat} {news : List Value}
    (hx : Rd w k x m news) (h1 : ∀ u ∈ news, u.oneCell' = true) (hbytes : (n + m) * b ≤ 140737488355328) (hlen : n + m ≤ 9223372036854775807) (ty : TypeId) :
    ∃ v' w', (Builtin.append_ #[t, t] ty #[v, x]).run P w = .ok v' w' ∧ Mem S w0 w' (L.set i ⟨E, k, v', n + m, xs ++ news⟩) := by
  obtain ⟨ti, hi, hz, hk, hby⟩ := hT.info
  have hown : w.ownsRow 0 E k v n xs := hM.get i hr
  obtain ⟨hl, a, c, rfl, hmc, hc, hnil, hcell⟩ := hx
  have blk : ∀ {v' : Value} {w' : World}, w.grownBy w' v.ownBlock → w'.ownsRow 0 E k v' (n + m) (xs ++ news) → (∀ c, v'.ownBlock = some c → v.ownBlock = some c ∨ w.heap.size ≤ c) → Mem S w0 w' (L.set i ⟨E, k, v', n + m, xs ++ news⟩) :=
    fun hg ho hv => hM.grow i hr (.inr rfl) hg _ _ _ ho hv
  cases a with
  | none =>
    obtain ⟨rfl, rfl⟩ := hnil rfl
    have hn0 : news = [] := List.eq_nil_of_length_eq_zero (by simpa using hl)
    subst hn0
    have hrun : (Builtin.append_ #[t, t] ty #[v, .slice none 0 0]).run P w = .ok v w := by
      rcases hown.2 with ⟨rfl, _⟩ | ⟨g, cap, cur, rfl, _, hg, hn, _, _, _⟩
      · simp [Builtin.append_, run_underlying hT.under, sizeOf, typeInfo, hi, Builtin.lenOf, Builtin.firstCells]
      · simp [Builtin.append_, run_underlying hT.under, sizeOf, typeInfo, hi, Builtin.lenOf, Builtin.firstCells, hn, storeCells]
    refine ⟨_, _, hrun, ?_⟩
    rw [List.append_nil, Nat.add_zero]
    exact hM.grow i hr (.inl rfl) ⟨rfl, rfl, rfl, Nat.le_refl _, fun _ _ _ => rfl⟩ _ _ _ hown (fun c hc => .inl hc)
  | some ad =>
    obtain ⟨hsp, hcs⟩ := hcell ad rfl
    have hnews : ∀ j u, news[j]? = some u → w.cell? (ad.add j) = some u := by
      intro j u hu
      rcases hsp with rfl | hsp
      · cases hu
      · have hadd : ad.add j = ⟨ad.block, ad.off + j, none⟩ := by obtain ⟨x, y, zz⟩ := ad; simp only at hsp; subst hsp; unfold Addr.add; split <;> simp_all
        rw [hadd]; exact hcs j u hu
    obtain ⟨v', w', hrun, ho, hg, _⟩ := run_append_own (P := P) w 0 t ty E ti z k b hT.under hi hz hk hby hT.cells hT.pos v n xs hown ad m c news hl
      hnews h1 (by simp only [maxLen]; omega) hbytes (Nat.zero_le _)
    refine ⟨v', w', hrun, blk hg ho (fun d hd => ?_)⟩
    have hd2 := own_lt ho d hd
    by_cases e : v.ownBlock = some d
    · exact .inl e
    · right
      -- a block below that is not v's own is as it was: so the new row would have been there
      rcases Nat.lt_or_ge d w.heap.size with hlt | hge
      · exfalso
        rcases append_place hT hown hl hnews h1 hbytes hlen hrun with h | h
        · exact e (h ▸ hd)
        · have := h d hd; omega
      · exact hge

/-- the address of element j -/
def At (v : Value) (k j : Nat) (p : Addr) : Prop := ∃ bl off n c, v = .slice (some ⟨bl, off, none⟩) n c ∧ p = ⟨bl, off + j * k, none⟩

theorem rd_at (hT : SliceT P t E k b z) {v : Value} {n : Nat} {xs : List Value} (h : Rd w k v n xs) {i : Int} (j : Nat) (hi : i = (j : Int)) (hj : j < n) :
    ∃ p, At v k j p ∧ ∀ (W : World) (kk : IntKind), (Instr.indexAt t v (.int kk i)).run P W = .ok (.pointer (some p)) W := by
  subst hi
  obtain ⟨hxl, a, c, rfl, hnc, hc, hnil, hcell⟩ := h
  cases a with
  | none => have := hnil rfl; omega
  | some ad =>
    obtain ⟨hsp, _⟩ := hcell ad rfl
    have hsp := hsp.resolve_left (by intro e; rw [e] at hxl; have := Nat.mul_pos (show 0 < n by omega) hT.pos; simp at hxl; omega)
    obtain ⟨bl, off, sp⟩ := ad
    simp only at hsp
    subst hsp
    refine ⟨⟨bl, off + j * k, none⟩, ⟨bl, off, n, c, rfl, rfl⟩, fun W kk => ?_⟩
    have hadd : (⟨bl, off, none⟩ : Addr).add (j * k) = ⟨bl, off + j * k, none⟩ := by unfold Addr.add; split <;> simp_all
    simp [Instr.indexAt, asIntOf, run_underlying hT.under, hT.size, hadd, hj]

/-- no struct, no array -/
def Plain (P : Program) (E : TypeId) : Prop := ∃ d, P.underlying E = some d ∧ (∀ fs, d ≠ .struct fs) ∧ (∀ m e, d ≠ .array m e)
theorem plain_agg (h : Plain P E) (W : World) : (isAgg E).run P W = .ok false W := by
  obtain ⟨d, hd, h1, h2⟩ := h
  unfold isAgg
  rw [Sem.run_bind, run_underlying hd]
  simp only [Result.andThen_ok]
  cases d <;> first | rfl | exact absurd rfl (h1 _) | exact absurd rfl (h2 _ _)
theorem cell_load (hE : Plain P E) {p : Addr} {u : Value} (h : w.cell? p = some u) : (Instr.loadAt E (.pointer (some p))).run P w = .ok u w := by
  simp [Instr.loadAt, Instr.sureAddr, loadVar, plain_agg hE, h]
theorem at_load {v : Value} {n : Nat} {xs : List Value} (hE : Plain P E) (h : Rd w 1 v n xs) {j : Nat} {p : Addr} (hp : At v 1 j p) {u : Value} (hu : xs[j]? = some u) : (Instr.loadAt E (.pointer (some p))).run P w = .ok u w := by
  obtain ⟨bl, off, n', c', rfl, rfl⟩ := hp
  obtain ⟨_, a, c, e, _, _, _, hcell⟩ := h
  simp only [Value.slice.injEq] at e
  obtain ⟨rfl, rfl, rfl⟩ := e
  have := (hcell _ rfl).2 j u hu
  simp only [Nat.mul_one]
  exact cell_load hE this

theorem at_store (hE1 : P.cellsOf E = 1) (hM : Mem S w0 w L) (i : Nat) {v : Value} {n : Nat} {xs : List Value} (hr : L[i]? = some ⟨E, 1, v, n, xs⟩) {j : Nat} {p : Addr} (hp : At v 1 j p) (hj : j < n) {u : Value} (hu : u.oneCell' = true) (hc : u.cells = #[u]) :
    ∃ w', (Instr.storeAt E (.pointer (some p)) u).run P w = .ok () w' ∧ Mem S w0 w' (L.set i ⟨E, 1, v, n, xs.set j u⟩) := by
  have hown : w.ownsRow 0 E 1 v n xs := hM.get i hr
  obtain ⟨bl, off, n', c', rfl, rfl⟩ := hp
  rcases hown.2 with ⟨e, _⟩ | ⟨g, cap, cur, e, _, hg, hn, _, hsz, ht⟩
  · cases e
  · simp only [Value.slice.injEq, Option.some.injEq, Addr.mk.injEq, and_true] at e
    obtain ⟨⟨rfl, rfl⟩, rfl, rfl⟩ := e
    have hst := hown.stored j u
    have hcell := hown.cellAt j (by omega)
    have hfr := hown.frozenAt j
    have hxs : xs[j]? = some (xs[j]'(by rw [hown.1]; omega)) := List.getElem?_eq_getElem _
    rw [hxs] at hcell
    have hsz : (sizeOf E).run P w = .ok 1 w := by
      have : ∃ i, P.info? E = some i ∧ i.size = 1 := by
        unfold Program.cellsOf at hE1
        cases hq : P.info? E with
        | none => rw [hq] at hE1; simp at hE1
        | some q => rw [hq] at hE1; exact ⟨q, rfl, by simpa using hE1⟩
      obtain ⟨i, hi, hk⟩ := this
      simp [sizeOf, typeInfo, hi, hk]
    refine ⟨_, ?_, hM.grow i hr (.inr rfl) (row := (Value.slice (some ⟨bl, 0, none⟩) n' c').ownBlock) ?_ _ _ _ hst.1 (fun b hb => .inl hb)⟩
    · simp only [Nat.mul_one, Nat.zero_add]
      simp [Instr.storeAt, Instr.sureAddr, storeVar, hsz, hc, storeCells, Addr.add, run_store, hu, hcell, hfr]
    · exact hst.2

theorem f_slen (hT : SliceT P t E k b z) {v : Value} {n : Nat} {xs : List Value} (h : Rd w k v n xs) (ty : TypeId) (W : World) : (Builtin.len_ #[t] ty #[v]).run P W = .ok (.int .i64 ((n : Nat) : Int)) W := by
  obtain ⟨_, a, c, rfl, _⟩ := h
  simp [Builtin.len_, run_underlying hT.under, goInt]

/-- the first m elements, the room kept -/
def cut (v : Value) (m : Nat) : Value := match v with | .slice a _ c => .slice a m c | v => v
theorem cut_cut (v : Value) (m m' : Nat) : cut (cut v m) m' = cut v m' := by cases v <;> rfl
theorem rd_cut {v : Value} {n : Nat} {xs : List Value} (h : Rd w k v n xs) {m : Nat} (hm : m ≤ n) : Rd w k (cut v m) m (xs.take (m * k)) := by
  obtain ⟨hl, a, c, rfl, hnc, hc, hnil, hcell⟩ := h
  refine ⟨?_, a, c, rfl, by omega, hc, fun e => ⟨by have := (hnil e).1; omega, (hnil e).2⟩, fun ad e => ⟨(hcell ad e).1.imp (fun h => by rw [h]; simp) id, fun j u hu => ?_⟩⟩
  · rw [List.length_take, hl]
    exact Nat.min_eq_left (Nat.mul_le_mul_right _ hm)
  · rw [List.getElem?_take] at hu
    split at hu
    · exact (hcell ad e).2 j u hu
    · cases hu
theorem rd_self {v : Value} {n : Nat} {xs : List Value} (h : Rd w k v n xs) : cut v n = v := by
  obtain ⟨_, a, c, rfl, _⟩ := h; rfl
/-- v[:m], with m up to the number that is known to lie there -/
theorem f_cut (hT : SliceT P t E k b z) {v : Value} {n : Nat} {xs : List Value} (h : Rd w k v n xs) {i : Int} (q m : Nat) (hi : i = (m : Int)) (hm : m ≤ n) (kk : IntKind) (W : World) :
    (Instr.sliceAt t (cut v q) none (some (.int kk i)) none).run P W = .ok (cut v m) W := by
  subst hi
  obtain ⟨hl, a, c, rfl, hnc, hc, hnil, hcell⟩ := h
  have h1 : (m : Int) ≤ (c : Int) := by omega
  have e : (Instr.slice t (.slice a q c) none (some (.int kk (m : Int))) none).run P W = .ok (.slice a m c) W := by
    have hsb := run_sliceBound (P := P) W kk (m : Int) c .sliceAcap (by omega) h1
    cases a with
    | none => simp [Instr.slice, run_underlying hT.under, Instr.sliceBounds, hsb, hT.size]
    | some ad =>
      have hadd : ad.add 0 = ad := by simp [Addr.add]
      simp [Instr.slice, run_underlying hT.under, Instr.sliceBounds, hsb, hT.size, hadd]
  simp only [Instr.sliceAt, Sem.run_bind, run_underlying hT.under, Result.andThen_ok]
  exact e

/-- v[lo:hi] -/
theorem f_part (hT : SliceT P t E k b z) {v : Value} {n : Nat} {xs : List Value} (h : Rd w k v n xs) {x y : Int} (lo hi : Nat) (hx : x = (lo : Int)) (hy : y = (hi : Int)) (hlh : lo ≤ hi) (hhn : hi ≤ n) :
    ∃ v', (∀ (W : World) (kk kl : IntKind), (Instr.sliceAt t v (some (.int kk x)) (some (.int kl y)) none).run P W = .ok v' W) ∧ Rd w k v' (hi - lo) ((xs.take (hi * k)).drop (lo * k)) ∧ (∀ c, v'.ownBlock = some c → v.ownBlock = some c) := by
  subst hx; subst hy
  obtain ⟨hl, a, c, rfl, hnc, hc, hnil, hcell⟩ := h
  have h1 : (hi : Int) ≤ (c : Int) := by omega
  have h2 : (lo : Int) ≤ (hi : Int) := by omega
  refine ⟨.slice (if c = lo then a else a.map (·.add (lo * k))) (hi - lo) (c - lo), fun W kk kl => ?_, ?_, ?_⟩
  · have hs1 := run_sliceBound (P := P) W kl (hi : Int) c .sliceAcap (by omega) h1
    have hs2 := run_sliceBound (P := P) W kk (lo : Int) hi .sliceB (by omega) h2
    have e : (Instr.slice t (.slice a n c) (some (.int kk (lo : Int))) (some (.int kl (hi : Int))) none).run P W = .ok (.slice (if c = lo then a else a.map (·.add (lo * k))) (hi - lo) (c - lo)) W := by
      simp [Instr.slice, run_underlying hT.under, Instr.sliceBounds, hs1, hs2, hT.size]
    simp only [Instr.sliceAt, Sem.run_bind, run_underlying hT.under, Result.andThen_ok]
    exact e
  · have hlen : ((xs.take (hi * k)).drop (lo * k)).length = (hi - lo) * k := by
      rw [List.length_drop, List.length_take, hl, Nat.min_eq_left (Nat.mul_le_mul_right _ hhn), Nat.sub_mul]
    refine ⟨hlen, _, _, rfl, by omega, by omega, ?_, ?_⟩
    · intro e
      have : a = none := by
        split at e
        · exact e
        · cases a with
          | none => rfl
          | some _ => simp at e
      have := hnil this
      omega
    · intro ad e
      cases a with
      | none => split at e <;> simp at e
      | some ad0 =>
        obtain ⟨hsp, hcs⟩ := hcell ad0 rfl
        rcases hsp with hxs | hsp
        · have e0 : (xs.take (hi * k)).drop (lo * k) = [] := by rw [hxs]; simp
          rw [e0]
          exact ⟨.inl rfl, fun j u hu => by cases hu⟩
        obtain ⟨bl, off, sp⟩ := ad0
        simp only at hsp
        subst hsp
        have hadd : (⟨bl, off, none⟩ : Addr).add (lo * k) = ⟨bl, off + lo * k, none⟩ := by unfold Addr.add; split <;> simp_all
        split at e
        · rename_i hcl
          simp only [Option.some.injEq] at e
          subst e
          refine ⟨.inr rfl, fun j u hu => ?_⟩
          have : (xs.take (hi * k)).drop (lo * k) = [] := by
            apply List.eq_nil_of_length_eq_zero
            rw [hlen, show hi - lo = 0 by omega, Nat.zero_mul]
          rw [this] at hu
          cases hu
        · simp only [Option.map_some, Option.some.injEq] at e
          subst e
          rw [hadd]
          refine ⟨.inr rfl, fun j u hu => ?_⟩
          rw [List.getElem?_drop, List.getElem?_take] at hu
          split at hu
          · have := hcs _ u hu
            simp only [Nat.add_assoc]
            exact this
          · cases hu
  · intro d hd
    cases a with
    | none => split at hd <;> simp [Value.ownBlock] at hd
    | some ad0 =>
      split at hd
      · exact hd
      · simp [Value.ownBlock] at hd ⊢
        rw [← hd]
        unfold Addr.add
        split <;> rfl

/-- v[lo:] -/
theorem f_from (hT : SliceT P t E k b z) {v : Value} {n : Nat} {xs : List Value} (h : Rd w k v n xs) {x : Int} (lo : Nat) (hx : x = (lo : Int)) (hln : lo ≤ n) :
    ∃ v', (∀ (W : World) (kk : IntKind), (Instr.sliceAt t v (some (.int kk x)) none none).run P W = .ok v' W) ∧ Rd w k v' (n - lo) (xs.drop (lo * k)) ∧ (∀ c, v'.ownBlock = some c → v.ownBlock = some c) := by
  obtain ⟨v', h1, h2, h3⟩ := f_part hT h lo n hx rfl hln (Nat.le_refl _)
  have hl := h.1
  rw [List.take_of_length_le (by omega)] at h2
  refine ⟨v', fun W kk => ?_, h2, h3⟩
  have h4 := h1 W kk .i64
  obtain ⟨_, a, c, rfl, hnc, hc, _, _⟩ := h
  subst hx
  have hsb := run_sliceBound (P := P) W .i64 (n : Int) c .sliceAcap (by omega) (by omega)
  simp only [Instr.sliceAt, Sem.run_bind, run_underlying hT.under, Result.andThen_ok] at h4 ⊢
  rw [← h4]
  simp [Instr.slice, run_underlying hT.under, Instr.sliceBounds, hsb]

/-! ### lists of plain things -/
def ivals (k : IntKind) (l : List Int) : List Value := l.map (Value.int k)
def u8s (l : List UInt8) : List Value := l.map fun c => Value.int .u8 (c.toNat : Int)
def svals (l : List (List UInt8)) : List Value := l.map fun s => Value.string (sb s)
def bvals (l : List Bool) : List Value := l.map Value.bool
theorem ivals_len (k : IntKind) (l : List Int) : (ivals k l).length = l.length := by simp [ivals]
theorem u8s_len (l : List UInt8) : (u8s l).length = l.length := by simp [u8s]
theorem svals_len (l : List (List UInt8)) : (svals l).length = l.length := by simp [svals]
theorem bvals_len (l : List Bool) : (bvals l).length = l.length := by simp [bvals]
theorem ivals_at {kk : IntKind} {l : List Int} {j : Nat} (h : j < l.length) : (ivals kk l)[j]? = some (.int kk (l.getD j 0)) := by
  simp [ivals, List.getElem?_eq_getElem h, List.getD_eq_getElem?_getD]
theorem u8s_at {l : List UInt8} {j : Nat} (h : j < l.length) : (u8s l)[j]? = some (.int .u8 (bl l j)) := by
  simp [u8s, bl, List.getElem?_eq_getElem h, List.getD_eq_getElem?_getD]
theorem svals_at {l : List (List UInt8)} {j : Nat} (h : j < l.length) : (svals l)[j]? = some (.string (sb (l.getD j []))) := by
  simp [svals, List.getElem?_eq_getElem h, List.getD_eq_getElem?_getD]
theorem bvals_at {l : List Bool} {j : Nat} (h : j < l.length) : (bvals l)[j]? = some (.bool (l.getD j false)) := by
  simp [bvals, List.getElem?_eq_getElem h, List.getD_eq_getElem?_getD]
theorem ivals_one (kk : IntKind) (l : List Int) : ∀ u ∈ ivals kk l, u.oneCell' = true := by
  intro u hu; obtain ⟨x, _, rfl⟩ := List.mem_map.1 hu; rfl
theorem u8s_one (l : List UInt8) : ∀ u ∈ u8s l, u.oneCell' = true := by
  intro u hu; obtain ⟨x, _, rfl⟩ := List.mem_map.1 hu; rfl
theorem svals_one (l : List (List UInt8)) : ∀ u ∈ svals l, u.oneCell' = true := by
  intro u hu; obtain ⟨x, _, rfl⟩ := List.mem_map.1 hu; rfl
theorem bvals_one (l : List Bool) : ∀ u ∈ bvals l, u.oneCell' = true := by
  intro u hu; obtain ⟨x, _, rfl⟩ := List.mem_map.1 hu; rfl
theorem ivals_app (kk : IntKind) (l m : List Int) : ivals kk l ++ ivals kk m = ivals kk (l ++ m) := by simp [ivals]
theorem u8s_app (l m : List UInt8) : u8s l ++ u8s m = u8s (l ++ m) := by simp [u8s]
theorem svals_app (l m : List (List UInt8)) : svals l ++ svals m = svals (l ++ m) := by simp [svals]
theorem bvals_app (l m : List Bool) : bvals l ++ bvals m = bvals (l ++ m) := by simp [bvals]
theorem ivals_set (kk : IntKind) (l : List Int) (j : Nat) (x : Int) : (ivals kk l).set j (.int kk x) = ivals kk (l.set j x) := by simp [ivals, List.map_set]
theorem bvals_set (l : List Bool) (j : Nat) (x : Bool) : (bvals l).set j (.bool x) = bvals (l.set j x) := by simp [bvals, List.map_set]
theorem ivals_take (kk : IntKind) (l : List Int) (n : Nat) : (ivals kk l).take n = ivals kk (l.take n) := by simp [ivals, List.map_take]
theorem ivals_drop (kk : IntKind) (l : List Int) (n : Nat) : (ivals kk l).drop n = ivals kk (l.drop n) := by simp [ivals, List.map_drop]
theorem u8s_take (l : List UInt8) (n : Nat) : (u8s l).take n = u8s (l.take n) := by simp [u8s, List.map_take]
theorem u8s_drop (l : List UInt8) (n : Nat) : (u8s l).drop n = u8s (l.drop n) := by simp [u8s, List.map_drop]

theorem at_load' {v : Value} {n : Nat} {xs : List Value} (hE : Plain P E) (h : Rd w 1 v n xs) {j : Nat} {p : Addr} (hp : At v 1 j p) {u : Value} (hu : xs[j]? = some u) (m : Nat) : (Instr.loadAt E (.pointer (some p))).run P (w.drewN m) = .ok u (w.drewN m) :=
  at_load hE (h.drewN m) hp hu

/-- bytes as a text -/
theorem f_string {d : TypeId} (hT : SliceT P t E 1 1 (.int .u8 0)) (he : P.underlying E = some (.int .u8)) (hd : P.underlying d = some .string) {v : Value} {n : Nat} {l : List UInt8} (h : Rd w 1 v n (u8s l)) :
    (convert t d v).run P w = .ok (.string (sb l)) w := by
  obtain ⟨hl, a, c, rfl, hnc, hc, hnil, hcell⟩ := h
  rw [u8s_len] at hl
  rw [run_convert_bytes_string w t d E a n c hT.under he hd]
  cases a with
  | none =>
    obtain ⟨rfl, rfl⟩ := hnil rfl
    have : l = [] := List.eq_nil_of_length_eq_zero (by omega)
    subst this
    simp [Conv.bytesToString, sb]
    rfl
  | some ad =>
    obtain ⟨hsp, hcs⟩ := hcell ad rfl
    have hload : (loadCells ad n).run P w = .ok ((l.map fun c => (c.toNat : Int)).map (Value.int .u8)).toArray w := by
      have e : (l.map fun c => (c.toNat : Int)).map (Value.int .u8) = u8s l := by simp [u8s]
      rw [e]
      have := run_loadCells_list (P := P) w ad (u8s l) (fun j u hj => by
        rcases hsp with h0 | hsp
        · rw [h0] at hj; cases hj
        · have hplain : ad.add j = ⟨ad.block, ad.off + j, none⟩ := by obtain ⟨x, y, zz⟩ := ad; simp only at hsp; subst hsp; unfold Addr.add; split <;> simp_all
          rw [hplain]; exact hcs j u hj)
      rw [u8s_len] at this
      rw [show n = l.length by omega]
      exact this
    rw [run_bytesToString w _ n c _ hload]
    congr 2
    have key : ∀ (l : List UInt8) (r : ByteArray), (l.map fun c => (c.toNat : Int)).foldl (fun r n => r.push (UInt8.ofNat n.toNat)) r = ⟨r.data ++ l.toArray⟩ := by
      intro l
      induction l with
      | nil => intro r; simp
      | cons x xs ih =>
        intro r
        simp only [List.map_cons, List.foldl_cons, ih]
        simp [ByteArray.push]
    rw [key]
    simp [sb]

/-- make([]T, n) -/
theorem m_make (hT : SliceT P t E 1 b z) (hz1 : z.cells = #[z]) (hM : Mem S w0 w L) {x y : Int} (n : Nat) (hx : x = (n : Int)) (hy : y = (n : Int)) (hbytes : b * n ≤ 281474976710656) (hn : n ≤ 9223372036854775807) (kl kc : IntKind) :
    ∃ v w', (Instr.makeSlice t (.int kl x) (.int kc y)).run P w = .ok v w' ∧ Mem S w0 w' (⟨E, 1, v, n, List.replicate n z⟩ :: L) := by
  subst hx; subst hy
  obtain ⟨i, hi, hz, hk, hb⟩ := hT.info
  obtain ⟨w', hrun, hown, hg⟩ := run_make_full (P := P) w 0 t E i z 1 hT.under hi hz hk kl kc n (by rw [hb]; exact hbytes) (by simp only [maxLen]; omega) (Nat.zero_le _)
  rw [hz1, Nat.mul_one, toList_madeCells_one] at hown
  refine ⟨_, w', hrun, hM.push hg ⟨E, 1, _, n, _⟩ hown (fun c hc => ?_)⟩
  simp [Value.ownBlock] at hc
  omega

theorem f_cut0 (hT : SliceT P t E k b z) {v : Value} {n : Nat} {xs : List Value} (h : Rd w k v n xs) {i : Int} (m : Nat) (hi : i = (m : Int)) (hm : m ≤ n) (kk : IntKind) (W : World) :
    (Instr.sliceAt t v none (some (.int kk i)) none).run P W = .ok (cut v m) W := by
  have := f_cut hT h n m hi hm kk W
  rwa [rd_self h] at this

/-- what a callee made is laid beside the caller's own -/
theorem Mem.join {w' : World} {R : List Row} (h : Mem S w0 w L) (c : Mem [] w w' R) : Mem S w0 w' (R ++ L) := by
  have hg : w.grownBy w' none := ⟨c.kept.os, c.kept.tape, c.kept.output, c.kept.size, fun b hb _ => c.kept.block b hb (by simp)⟩
  have h' := h.same hg
  refine ⟨h'.kept, fun r hr => ?_, ?_, fun r hr b hb => ?_⟩
  · rcases List.mem_append.1 hr with hr | hr
    · exact c.owns r hr
    · exact h'.owns r hr
  · have hlow : ∀ s ∈ L, ∀ b, s.v.ownBlock = some b → b < w.heap.size := fun s hs b hb => own_lt (h.owns s hs) b hb
    have hhigh : ∀ r ∈ R, ∀ b, r.v.ownBlock = some b → w.heap.size ≤ b := fun r hr b hb => (c.mine r hr b hb).resolve_left (by simp)
    have ha := c.apart
    clear c h'
    induction R with
    | nil => exact h.apart
    | cons r R ih =>
      refine ⟨fun s hs => ?_, ih (fun r' hr' => hhigh r' (List.mem_cons_of_mem _ hr')) ha.2⟩
      rcases List.mem_append.1 hs with hs | hs
      · exact ha.1 s hs
      · cases hrb : r.v.ownBlock with
        | none => exact .inl rfl
        | some b =>
          right
          intro e
          have h1 := hhigh r (List.mem_cons_self ..) b hrb
          have h2 := hlow s hs b e.symm
          omega
  · rcases List.mem_append.1 hr with hr | hr
    · right
      have := (c.mine r hr b hb).resolve_left (by simp)
      exact Nat.le_trans h.kept.size this
    · exact h'.mine r hr b hb
theorem Mem.cast {M : List Row} (h : Mem S w0 w L) (e : L = M) : Mem S w0 w M := e ▸ h

def nvals (kk : IntKind) (l : List Nat) : List Value := l.map fun (n : Nat) => Value.int kk (n : Int)
theorem nvals_len (kk : IntKind) (l : List Nat) : (nvals kk l).length = l.length := by simp [nvals]
theorem nvals_at {kk : IntKind} {l : List Nat} {j : Nat} (h : j < l.length) : (nvals kk l)[j]? = some (.int kk ((l.getD j 0 : Nat) : Int)) := by
  simp [nvals, List.getElem?_eq_getElem h, List.getD_eq_getElem?_getD]
theorem nvals_one (kk : IntKind) (l : List Nat) : ∀ u ∈ nvals kk l, u.oneCell' = true := by
  intro u hu; obtain ⟨x, _, rfl⟩ := List.mem_map.1 hu; rfl

/-- bytes of numbers -/
def bytesOf (l : List Int) : List UInt8 := l.map fun x => UInt8.ofNat x.toNat
theorem u8s_bytesOf {l : List Int} (h : ∀ x ∈ l, 0 ≤ x ∧ x ≤ 255) : u8s (bytesOf l) = ivals .u8 l := by
  unfold u8s bytesOf ivals
  rw [List.map_map]
  apply List.map_congr_left
  intro x hx
  obtain ⟨h1, h2⟩ := h x hx
  simp only [Function.comp]
  congr 1
  rw [UInt8.toNat_ofNat', Nat.mod_eq_of_lt (by omega)]
  omega
theorem f_string_i {d : TypeId} (hT : SliceT P t E 1 1 (.int .u8 0)) (he : P.underlying E = some (.int .u8)) (hd : P.underlying d = some .string) {v : Value} {n : Nat} {l : List Int} (h : Rd w 1 v n (ivals .u8 l)) (hl : ∀ x ∈ l, 0 ≤ x ∧ x ≤ 255) :
    (convert t d v).run P w = .ok (.string (sb (bytesOf l))) w := f_string hT he hd (by rw [u8s_bytesOf hl]; exact h)

/-- a world that is another but for draws -/
def Dr (w w' : World) : Prop := ∃ m, w' = w.drewN m
theorem Dr.refl (w : World) : Dr w w := ⟨0, rfl⟩
theorem Dr.trans {a b c : World} (h : Dr a b) (k : Dr b c) : Dr a c := by
  obtain ⟨m, rfl⟩ := h; obtain ⟨m', rfl⟩ := k
  exact ⟨m + m', World.drewN_drewN _ _ _⟩
theorem Rd.dr {w w' : World} {k n : Nat} {v : Value} {xs : List Value} (h : Rd w k v n xs) (d : Dr w w') : Rd w' k v n xs := by
  obtain ⟨m, rfl⟩ := d; exact h.drewN m
theorem Mem.dr {w' : World} (h : Mem S w0 w L) (d : Dr w w') : Mem S w0 w' L := by
  obtain ⟨m, rfl⟩ := d; exact h.drewN m
theorem Dr.mem {w w' : World} (d : Dr w w') : Mem [] w w' [] := (Mem.start w).dr d
theorem one_u {u : Value} (h : u.oneCell' = true) : ∀ x ∈ [u], x.oneCell' = true := by
  intro x hx; rw [List.mem_singleton] at hx; subst hx; exact h
theorem Mem.nilrow (h : Mem S w0 w L) (E : TypeId) (k : Nat) : Mem S w0 w (⟨E, k, .slice none 0 0, 0, []⟩ :: L) :=
  h.push ⟨rfl, rfl, rfl, Nat.le_refl _, fun _ _ _ => rfl⟩ _ (World.ownsRow_nil w 0 E k) (fun b hb => by simp [Value.ownBlock] at hb)
theorem rd_cast {k n : Nat} {v : Value} {xs ys : List Value} (h : Rd w k v n xs) (e : xs = ys) : Rd w k v n ys := e ▸ h
theorem rd_castn {k n m : Nat} {v : Value} {xs : List Value} (h : Rd w k v n xs) (e : n = m) : Rd w k v m xs := e ▸ h
theorem rd_cut1 {v : Value} {n : Nat} {xs ys : List Value} (h : Rd w 1 v n xs) {m : Nat} (hm : m ≤ n) (e : xs.take m = ys) : Rd w 1 (cut v m) m ys := by
  have := rd_cut h hm
  rw [Nat.mul_one] at this
  exact e ▸ this
end
theorem pR {α : Type} {l : List α} : l.Perm l := .refl l
theorem pS {α : Type} {a b : α} {l m : List α} (h : l.Perm (a :: m)) : (b :: l).Perm (a :: b :: m) := (List.Perm.cons b h).trans (List.Perm.swap a b m)
theorem sK {α : Type} {a : α} {l m : List α} (h : l.Sublist m) : (a :: l).Sublist (a :: m) := .cons_cons a h
theorem sD {α : Type} {a : α} {l m : List α} (h : l.Sublist m) : l.Sublist (a :: m) := .cons a h
theorem sN {α : Type} {l : List α} : ([] : List α).Sublist l := List.nil_sublist l
theorem sR {α : Type} {l : List α} : l.Sublist l := .refl l
theorem mS {α : Type} {a b : α} {l : List α} (h : a ∈ l) : a ∈ b :: l := List.mem_cons_of_mem b h
abbrev iN (n : Nat) : Value := .int .i64 ((n : Nat) : Int)
abbrev sS (s : List UInt8) : Value := .string (sb s)
abbrev pq (b : Nat) : Value := .pointer (some ⟨b, 0, none⟩)
end Go.Gw
