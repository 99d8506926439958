/-
  Rows lent to a callee, that may write them, and what comes back. No condition.
-/
import Derived.Test.YtnhplkkbpmijdaaObj
namespace Go.Gw
set_option linter.unusedVariables false
set_option linter.unusedSimpArgs false
open Go.RowKit

def ownl (v : Value) : List Nat := match v.ownBlock with | some b => [b] | none => []
def blocks (R : List Row) : List Nat := R.flatMap fun r => ownl r.v
theorem mem_ownl {v : Value} {b : Nat} : b ∈ ownl v ↔ v.ownBlock = some b := by
  unfold ownl
  cases h : v.ownBlock with
  | none => simp
  | some c => simp [eq_comm]
theorem mem_blocks {R : List Row} {b : Nat} : b ∈ blocks R ↔ ∃ r ∈ R, r.v.ownBlock = some b := by
  simp [blocks, mem_ownl]
section
variable {w w0 w' : World} {S : List Nat} {L R R' : List Row}
theorem apart_left (h : Apart (R ++ L)) : Apart R := by
  induction R with
  | nil => trivial
  | cons r R ih => exact ⟨fun s hs => h.1 s (List.mem_append_left _ hs), ih h.2⟩
theorem apart_right (h : Apart (R ++ L)) : Apart L := by
  induction R with
  | nil => exact h
  | cons r R ih => exact ih h.2
theorem apart_cross (h : Apart (R ++ L)) : ∀ r ∈ R, ∀ s ∈ L, r.v.ownBlock = none ∨ r.v.ownBlock ≠ s.v.ownBlock := by
  induction R with
  | nil => intro r hr; cases hr
  | cons q R ih =>
    intro r hr s hs
    cases hr with
    | head => exact h.1 s (List.mem_append_right _ hs)
    | tail _ hr => exact ih h.2 r hr s hs
theorem apart_join (h1 : Apart R) (h2 : Apart L) (h : ∀ r ∈ R, ∀ s ∈ L, r.v.ownBlock = none ∨ r.v.ownBlock ≠ s.v.ownBlock) : Apart (R ++ L) := by
  induction R with
  | nil => exact h2
  | cons q R ih =>
    refine ⟨fun s hs => ?_, ih h1.2 (fun r hr => h r (List.mem_cons_of_mem _ hr))⟩
    rcases List.mem_append.1 hs with hs | hs
    · exact h1.1 s hs
    · exact h q (List.mem_cons_self ..) s hs
/-- the first rows are lent -/
theorem Mem.lend (h : Mem S w0 w (R ++ L)) : Mem (blocks R) w w R :=
  ⟨Kept.refl _ _, fun r hr => h.owns r (List.mem_append_left _ hr), apart_left h.apart, fun r hr b hb => .inl (mem_blocks.2 ⟨r, hr, hb⟩)⟩
/-- they come back changed -/
theorem Mem.back (h : Mem S w0 w (R ++ L)) (c : Mem (blocks R) w w' R') : Mem S w0 w' (R' ++ L) := by
  have hcross := apart_cross h.apart
  have hnot : ∀ s ∈ L, ∀ b, s.v.ownBlock = some b → b ∉ blocks R := by
    intro s hs b hb hbR
    obtain ⟨r, hr, hrb⟩ := mem_blocks.1 hbR
    rcases hcross r hr s hs with e | e
    · rw [e] at hrb; cases hrb
    · exact e (hrb.trans hb.symm)
  refine ⟨⟨c.kept.os.trans h.kept.os, c.kept.tape.trans h.kept.tape, c.kept.output.trans h.kept.output, Nat.le_trans h.kept.size c.kept.size, ?_⟩, ?_, ?_, ?_⟩
  · intro b hb hbS
    have hb2 := Nat.lt_of_lt_of_le hb h.kept.size
    rw [c.kept.block b hb2 ?_, h.kept.block b hb hbS]
    intro hbR
    obtain ⟨r, hr, hrb⟩ := mem_blocks.1 hbR
    rcases h.mine r (List.mem_append_left _ hr) b hrb with e | e
    · exact hbS e
    · omega
  · intro r hr
    rcases List.mem_append.1 hr with hr | hr
    · exact c.owns r hr
    · have ho := h.owns r (List.mem_append_right _ hr)
      have hlt := own_lt ho
      cases hv : r.v.ownBlock with
      | none =>
        obtain ⟨hl, hh⟩ := ho
        refine ⟨hl, ?_⟩
        rcases hh with hh | ⟨g, cap, cur, e, _⟩
        · exact .inl hh
        · rw [e] at hv; cases hv
      | some b =>
        obtain ⟨hl, hh⟩ := ho
        refine ⟨hl, ?_⟩
        rcases hh with hh | ⟨g, cap, cur, e, hb, hg, h1, h2, h3, h4⟩
        · exact .inl hh
        · refine .inr ⟨g, cap, cur, e, hb, ?_, h1, h2, h3, h4⟩
          rw [c.kept.block g ?_ ?_]
          · exact hg
          · exact hlt g (by rw [e]; rfl)
          · exact hnot r hr g (by rw [e]; rfl)
  · refine apart_join c.apart (apart_right h.apart) ?_
    intro r hr s hs
    cases hrb : r.v.ownBlock with
    | none => exact .inl rfl
    | some b =>
      right
      intro e
      rcases c.mine r hr b hrb with e2 | e2
      · exact hnot s hs b e.symm e2
      · have := own_lt (h.owns s (List.mem_append_right _ hs)) b e.symm
        omega
  · intro r hr b hb
    rcases List.mem_append.1 hr with hr | hr
    · rcases c.mine r hr b hb with e | e
      · obtain ⟨q, hq, hqb⟩ := mem_blocks.1 e
        exact h.mine q (List.mem_append_left _ hq) b hqb
      · exact .inr (Nat.le_trans h.kept.size e)
    · exact h.mine r (List.mem_append_right _ hr) b hb
/-- a row is moved to the front -/
theorem Mem.perm (h : Mem S w0 w L) (hp : L.Perm R) : Mem S w0 w R := by
  refine ⟨h.kept, fun r hr => h.owns r (hp.mem_iff.2 hr), ?_, fun r hr => h.mine r (hp.mem_iff.2 hr)⟩
  have := h.apart
  clear h
  induction hp with
  | nil => trivial
  | cons x hp ih => exact ⟨fun s hs => this.1 s (hp.mem_iff.2 hs), ih this.2⟩
  | swap x y l =>
    obtain ⟨h1, h2, h3⟩ := this
    refine ⟨fun s hs => ?_, fun s hs => h1 s (List.mem_cons_of_mem _ hs), h3⟩
    rcases List.mem_cons.1 hs with rfl | hs
    · rcases h1 x (List.mem_cons_self ..) with e | e
      · cases hx : x.v.ownBlock with
        | none => exact .inl rfl
        | some b => right; rw [e]; simp
      · exact .inr (Ne.symm e)
    · exact h2 s hs
  | trans _ _ ih1 ih2 => exact ih2 (ih1 this)
end
end Go.Gw
