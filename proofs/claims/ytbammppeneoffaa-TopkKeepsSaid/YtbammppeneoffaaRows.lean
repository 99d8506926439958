/-
  No cell of these rows narrows 'for every input' (looked for: loops, veiled, ifaces, maps, wideKeys, modest, calm, conditions, laid).
  DERIVED. THE GIVEN ROWS OF THIS SEAT. 5 by the template 'for every input the law returns true; each argument reads behind the call as it read before'; 0 by the template 'total and deterministic' (their statements: YtbammppeneoffaaTotals.lean).
  GIVEN WITH THE SEED: the statements are not yours to turn. If you find one false, say at which input.
  Laid BY PROGRAM, IN A SANDBOX (cutbox-rows.mjs): the forced cells as the released guide's own fill.sh prints them over the translation 5fc86909cc217d1e… (all of the seat's roots in one cut). By AI agents, Wed Nov 11 2026. No macro, syntax, notation, axiom, sorry.
-/
import Derived.Test.YtbammppeneoffaaChecked
import GoSem.Claim
import GoSem.ClaimJoined
import GoSem.ClaimMapViews
import Derived.JoinedTies
import Derived.KernelRfl
namespace Go.Proofs.Ytbammppeneoffaa
/- THE CELL 'sum', in the pinned program and in every row, IS THE sha256 OF THE DUMP (.gsa) THAT YtbammppeneoffaaProg.lean LOADS. Nothing in Lean hashes anything: it is a label: what it is worth is what the hold of that sum in a sandbox is worth. -/
noncomputable def Try.pinned : Pinned := { name := "ytbammppeneoffaa", sum := "5fc86909cc217d1eaa845647ecd48a1f29f26267b743743168b68572023d6e47", checked := Try.checked }
namespace Rows
def none {H : Type} : Left H := { results := [], args := [] }

/-- 'glosslaw25.TopkKeeps': WHATEVER THE INPUT: true; the input reads as it did. -/
def topkKeepsSpec : ChangeSpec := { name := "topkKeeps", fn := fun _ => fun
  | [d1, d2] => { results := [.lit (.bool true)], args := [d1, d2] }
  | _ => none }
def topkKeepsRow : OpenClaim := { program := "ytbammppeneoffaa", sum := "5fc86909cc217d1eaa845647ecd48a1f29f26267b743743168b68572023d6e47", func := "gloss/glosslaw25.TopkKeeps", spec := "topkKeeps", unfollowed := true, recurses := true, apart := false }
def TopkKeepsSaid : Prop := topkKeepsRow.holds Try.pinned (OpenSpec.ofChange topkKeepsSpec)

/-- ITS FALSE NEIGHBOUR: 'it returns false'. Refute it at one input. -/
def topkKeepsWrong : ChangeSpec := { name := "topkKeeps", fn := fun _ => fun
  | [d1, d2] => { results := [.lit (.bool false)], args := [d1, d2] }
  | _ => none }
def TopkKeepsWrongFalsely : Prop := topkKeepsRow.holds Try.pinned (OpenSpec.ofChange topkKeepsWrong)

/-- 'glosslaw25.TopkOrder': WHATEVER THE INPUT: true; the input reads as it did. -/
def topkOrderSpec : ChangeSpec := { name := "topkOrder", fn := fun _ => fun
  | [d1, d2] => { results := [.lit (.bool true)], args := [d1, d2] }
  | _ => none }
def topkOrderRow : OpenClaim := { program := "ytbammppeneoffaa", sum := "5fc86909cc217d1eaa845647ecd48a1f29f26267b743743168b68572023d6e47", func := "gloss/glosslaw25.TopkOrder", spec := "topkOrder", unfollowed := true, recurses := true, apart := false }
def TopkOrderSaid : Prop := topkOrderRow.holds Try.pinned (OpenSpec.ofChange topkOrderSpec)

/-- ITS FALSE NEIGHBOUR: 'it returns false'. Refute it at one input. -/
def topkOrderWrong : ChangeSpec := { name := "topkOrder", fn := fun _ => fun
  | [d1, d2] => { results := [.lit (.bool false)], args := [d1, d2] }
  | _ => none }
def TopkOrderWrongFalsely : Prop := topkOrderRow.holds Try.pinned (OpenSpec.ofChange topkOrderWrong)

/-- 'glosslaw25.TopkBetter': WHATEVER THE INPUT: true; the input reads as it did. -/
def topkBetterSpec : ChangeSpec := { name := "topkBetter", fn := fun _ => fun
  | [d1, d2, d3] => { results := [.lit (.bool true)], args := [d1, d2, d3] }
  | _ => none }
def topkBetterRow : OpenClaim := { program := "ytbammppeneoffaa", sum := "5fc86909cc217d1eaa845647ecd48a1f29f26267b743743168b68572023d6e47", func := "gloss/glosslaw25.TopkBetter", spec := "topkBetter", unfollowed := true, recurses := true, apart := false }
def TopkBetterSaid : Prop := topkBetterRow.holds Try.pinned (OpenSpec.ofChange topkBetterSpec)

/-- ITS FALSE NEIGHBOUR: 'it returns false'. Refute it at one input. -/
def topkBetterWrong : ChangeSpec := { name := "topkBetter", fn := fun _ => fun
  | [d1, d2, d3] => { results := [.lit (.bool false)], args := [d1, d2, d3] }
  | _ => none }
def TopkBetterWrongFalsely : Prop := topkBetterRow.holds Try.pinned (OpenSpec.ofChange topkBetterWrong)

/-- 'glosslaw25.TopkNil': WHATEVER THE INPUT: true; the input reads as it did. -/
def topkNilSpec : ChangeSpec := { name := "topkNil", fn := fun _ => fun
  | [d] => { results := [.lit (.bool true)], args := [d] }
  | _ => none }
def topkNilRow : OpenClaim := { program := "ytbammppeneoffaa", sum := "5fc86909cc217d1eaa845647ecd48a1f29f26267b743743168b68572023d6e47", func := "gloss/glosslaw25.TopkNil", spec := "topkNil", unfollowed := true, recurses := true, apart := false }
def TopkNilSaid : Prop := topkNilRow.holds Try.pinned (OpenSpec.ofChange topkNilSpec)

/-- ITS FALSE NEIGHBOUR: 'it returns false'. Refute it at one input. -/
def topkNilWrong : ChangeSpec := { name := "topkNil", fn := fun _ => fun
  | [d] => { results := [.lit (.bool false)], args := [d] }
  | _ => none }
def TopkNilWrongFalsely : Prop := topkNilRow.holds Try.pinned (OpenSpec.ofChange topkNilWrong)

/-- 'glosslaw25.TopkParts': WHATEVER THE INPUT: true; the input reads as it did. -/
def topkPartsSpec : ChangeSpec := { name := "topkParts", fn := fun _ => fun
  | [d1, d2, d3] => { results := [.lit (.bool true)], args := [d1, d2, d3] }
  | _ => none }
def topkPartsRow : OpenClaim := { program := "ytbammppeneoffaa", sum := "5fc86909cc217d1eaa845647ecd48a1f29f26267b743743168b68572023d6e47", func := "gloss/glosslaw25.TopkParts", spec := "topkParts", unfollowed := true, recurses := true, apart := false }
def TopkPartsSaid : Prop := topkPartsRow.holds Try.pinned (OpenSpec.ofChange topkPartsSpec)

/-- ITS FALSE NEIGHBOUR: 'it returns false'. Refute it at one input. -/
def topkPartsWrong : ChangeSpec := { name := "topkParts", fn := fun _ => fun
  | [d1, d2, d3] => { results := [.lit (.bool false)], args := [d1, d2, d3] }
  | _ => none }
def TopkPartsWrongFalsely : Prop := topkPartsRow.holds Try.pinned (OpenSpec.ofChange topkPartsWrong)

/- THE SECOND FORM. 'bulk': how many values and letters a reading holds, each counted each time it is reached (what is shared counts as often as it is met; a slice's spare places count too). A statement '..UptoSaid' is the law's where the arguments, and the package variables that the reading takes, are together of bulk at most 1048576: NARROWER than '..Said'. Prove '..Said' where nothing that the law and all that it calls make is longer than what came in: it says more and counts as full. Else prove '..UptoSaid'. A law counts once. -/
mutual
def uptoBulk {H : Type} : DataW H → Nat
  | .lit (.string bytes) => bytes.length + 1
  | .lit _ => 1
  | .nil => 1
  | .ptr d => uptoBulk d + 1
  | .slice elems spare => uptoBulkAll elems + uptoBulkAll spare + 1
  | .agg parts => uptoBulkAll parts + 1
  | .iface _ d => uptoBulk d + 1
  | .map entries => uptoBulkEntries entries + 1
  | .held _ => 1
def uptoBulkAll {H : Type} : List (DataW H) → Nat
  | [] => 0
  | d :: r => uptoBulk d + uptoBulkAll r
def uptoBulkEntries {H : Type} : List (Lit × DataW H) → Nat
  | [] => 0
  | x :: r => uptoBulkEntry x + uptoBulkEntries r
def uptoBulkEntry {H : Type} : Lit × DataW H → Nat
  | (.string bytes, d) => bytes.length + uptoBulk d + 1
  | (_, d) => uptoBulk d + 1
 end
def uptoSmall : (H : Type) → List (DataW H) → Bool := fun _ ds => decide (uptoBulkAll ds ≤ 1048576)
def OpenSpec.upto (s : _root_.Go.ChangeSpec) : _root_.Go.OpenSpec := { _root_.Go.OpenSpec.ofChange s with cond := some uptoSmall }

/-- 'glosslaw25.TopkKeeps', WHERE WHAT IT READS IS OF BULK AT MOST 1048576: true; the input reads as it did. -/
def topkKeepsUptoRow : OpenClaim := { program := "ytbammppeneoffaa", sum := "5fc86909cc217d1eaa845647ecd48a1f29f26267b743743168b68572023d6e47", func := "gloss/glosslaw25.TopkKeeps", spec := "topkKeeps", unfollowed := true, recurses := true, apart := false, narrowed := true }
def TopkKeepsUptoSaid : Prop := topkKeepsUptoRow.holds Try.pinned (OpenSpec.upto topkKeepsSpec)

/-- 'glosslaw25.TopkOrder', WHERE WHAT IT READS IS OF BULK AT MOST 1048576: true; the input reads as it did. -/
def topkOrderUptoRow : OpenClaim := { program := "ytbammppeneoffaa", sum := "5fc86909cc217d1eaa845647ecd48a1f29f26267b743743168b68572023d6e47", func := "gloss/glosslaw25.TopkOrder", spec := "topkOrder", unfollowed := true, recurses := true, apart := false, narrowed := true }
def TopkOrderUptoSaid : Prop := topkOrderUptoRow.holds Try.pinned (OpenSpec.upto topkOrderSpec)

/-- 'glosslaw25.TopkBetter', WHERE WHAT IT READS IS OF BULK AT MOST 1048576: true; the input reads as it did. -/
def topkBetterUptoRow : OpenClaim := { program := "ytbammppeneoffaa", sum := "5fc86909cc217d1eaa845647ecd48a1f29f26267b743743168b68572023d6e47", func := "gloss/glosslaw25.TopkBetter", spec := "topkBetter", unfollowed := true, recurses := true, apart := false, narrowed := true }
def TopkBetterUptoSaid : Prop := topkBetterUptoRow.holds Try.pinned (OpenSpec.upto topkBetterSpec)

/-- 'glosslaw25.TopkNil', WHERE WHAT IT READS IS OF BULK AT MOST 1048576: true; the input reads as it did. -/
def topkNilUptoRow : OpenClaim := { program := "ytbammppeneoffaa", sum := "5fc86909cc217d1eaa845647ecd48a1f29f26267b743743168b68572023d6e47", func := "gloss/glosslaw25.TopkNil", spec := "topkNil", unfollowed := true, recurses := true, apart := false, narrowed := true }
def TopkNilUptoSaid : Prop := topkNilUptoRow.holds Try.pinned (OpenSpec.upto topkNilSpec)

/-- 'glosslaw25.TopkParts', WHERE WHAT IT READS IS OF BULK AT MOST 1048576: true; the input reads as it did. -/
def topkPartsUptoRow : OpenClaim := { program := "ytbammppeneoffaa", sum := "5fc86909cc217d1eaa845647ecd48a1f29f26267b743743168b68572023d6e47", func := "gloss/glosslaw25.TopkParts", spec := "topkParts", unfollowed := true, recurses := true, apart := false, narrowed := true }
def TopkPartsUptoSaid : Prop := topkPartsUptoRow.holds Try.pinned (OpenSpec.upto topkPartsSpec)

end Rows
end Go.Proofs.Ytbammppeneoffaa
