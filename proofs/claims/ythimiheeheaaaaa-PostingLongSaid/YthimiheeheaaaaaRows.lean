/-
  No cell of these rows narrows 'for every input' (looked for: loops, veiled, ifaces, maps, wideKeys, modest, calm, conditions, laid).
  DERIVED. THE GIVEN ROWS OF THIS SEAT. 7 by the template 'for every input the law returns true; each argument reads behind the call as it read before'; 0 by the template 'total and deterministic' (their statements: YthimiheeheaaaaaTotals.lean).
  GIVEN WITH THE SEED: the statements are not yours to turn. If you find one false, say at which input.
  Laid BY PROGRAM, IN A SANDBOX (cutbox-rows.mjs): the forced cells as the released guide's own fill.sh prints them over the translation 937d4aa20fb74bd5… (all of the seat's roots in one cut). By AI agents, Wed Nov 11 2026. No macro, syntax, notation, axiom, sorry.
-/
import Derived.Test.YthimiheeheaaaaaChecked
import GoSem.Claim
import GoSem.ClaimJoined
import GoSem.ClaimMapViews
import Derived.JoinedTies
import Derived.KernelRfl
namespace Go.Proofs.Ythimiheeheaaaaa
/- THE CELL 'sum', in the pinned program and in every row, IS THE sha256 OF THE DUMP (.gsa) THAT YthimiheeheaaaaaProg.lean LOADS. Nothing in Lean hashes anything: it is a label: what it is worth is what the hold of that sum in a sandbox is worth. -/
noncomputable def Try.pinned : Pinned := { name := "ythimiheeheaaaaa", sum := "937d4aa20fb74bd5fbe419a2aad595e48ab41969414349bf8a71312467dea05f", checked := Try.checked }
namespace Rows
def none {H : Type} : Left H := { results := [], args := [] }

/-- 'glosslaw14.PostingPacks': WHATEVER THE INPUT: true; the input reads as it did. -/
def postingPacksSpec : ChangeSpec := { name := "postingPacks", fn := fun _ => fun
  | [d] => { results := [.lit (.bool true)], args := [d] }
  | _ => none }
def postingPacksRow : OpenClaim := { program := "ythimiheeheaaaaa", sum := "937d4aa20fb74bd5fbe419a2aad595e48ab41969414349bf8a71312467dea05f", func := "gloss/glosslaw14.PostingPacks", spec := "postingPacks", recurses := true, apart := false }
def PostingPacksSaid : Prop := postingPacksRow.holds Try.pinned (OpenSpec.ofChange postingPacksSpec)

/-- ITS FALSE NEIGHBOUR: 'it returns false'. Refute it at one input. -/
def postingPacksWrong : ChangeSpec := { name := "postingPacks", fn := fun _ => fun
  | [d] => { results := [.lit (.bool false)], args := [d] }
  | _ => none }
def PostingPacksWrongFalsely : Prop := postingPacksRow.holds Try.pinned (OpenSpec.ofChange postingPacksWrong)

/-- 'glosslaw14.PostingReads': WHATEVER THE INPUT: true; the input reads as it did. -/
def postingReadsSpec : ChangeSpec := { name := "postingReads", fn := fun _ => fun
  | [d] => { results := [.lit (.bool true)], args := [d] }
  | _ => none }
def postingReadsRow : OpenClaim := { program := "ythimiheeheaaaaa", sum := "937d4aa20fb74bd5fbe419a2aad595e48ab41969414349bf8a71312467dea05f", func := "gloss/glosslaw14.PostingReads", spec := "postingReads", recurses := true, apart := false }
def PostingReadsSaid : Prop := postingReadsRow.holds Try.pinned (OpenSpec.ofChange postingReadsSpec)

/-- ITS FALSE NEIGHBOUR: 'it returns false'. Refute it at one input. -/
def postingReadsWrong : ChangeSpec := { name := "postingReads", fn := fun _ => fun
  | [d] => { results := [.lit (.bool false)], args := [d] }
  | _ => none }
def PostingReadsWrongFalsely : Prop := postingReadsRow.holds Try.pinned (OpenSpec.ofChange postingReadsWrong)

/-- 'glosslaw14.PostingBack': WHATEVER THE INPUT: true; the input reads as it did. -/
def postingBackSpec : ChangeSpec := { name := "postingBack", fn := fun _ => fun
  | [d1, d2, d3] => { results := [.lit (.bool true)], args := [d1, d2, d3] }
  | _ => none }
def postingBackRow : OpenClaim := { program := "ythimiheeheaaaaa", sum := "937d4aa20fb74bd5fbe419a2aad595e48ab41969414349bf8a71312467dea05f", func := "gloss/glosslaw14.PostingBack", spec := "postingBack", apart := false }
def PostingBackSaid : Prop := postingBackRow.holds Try.pinned (OpenSpec.ofChange postingBackSpec)

/-- ITS FALSE NEIGHBOUR: 'it returns false'. Refute it at one input. -/
def postingBackWrong : ChangeSpec := { name := "postingBack", fn := fun _ => fun
  | [d1, d2, d3] => { results := [.lit (.bool false)], args := [d1, d2, d3] }
  | _ => none }
def PostingBackWrongFalsely : Prop := postingBackRow.holds Try.pinned (OpenSpec.ofChange postingBackWrong)

/-- 'glosslaw14.PostingNil': WHATEVER THE INPUT: true; the input reads as it did. -/
def postingNilSpec : ChangeSpec := { name := "postingNil", fn := fun _ => fun
  | [d] => { results := [.lit (.bool true)], args := [d] }
  | _ => none }
def postingNilRow : OpenClaim := { program := "ythimiheeheaaaaa", sum := "937d4aa20fb74bd5fbe419a2aad595e48ab41969414349bf8a71312467dea05f", func := "gloss/glosslaw14.PostingNil", spec := "postingNil", apart := false }
def PostingNilSaid : Prop := postingNilRow.holds Try.pinned (OpenSpec.ofChange postingNilSpec)

/-- ITS FALSE NEIGHBOUR: 'it returns false'. Refute it at one input. -/
def postingNilWrong : ChangeSpec := { name := "postingNil", fn := fun _ => fun
  | [d] => { results := [.lit (.bool false)], args := [d] }
  | _ => none }
def PostingNilWrongFalsely : Prop := postingNilRow.holds Try.pinned (OpenSpec.ofChange postingNilWrong)

/-- 'glosslaw14.PostingLong': WHATEVER THE INPUT: true; the input reads as it did. -/
def postingLongSpec : ChangeSpec := { name := "postingLong", fn := fun _ => fun
  | [d1, d2, d3] => { results := [.lit (.bool true)], args := [d1, d2, d3] }
  | _ => none }
def postingLongRow : OpenClaim := { program := "ythimiheeheaaaaa", sum := "937d4aa20fb74bd5fbe419a2aad595e48ab41969414349bf8a71312467dea05f", func := "gloss/glosslaw14.PostingLong", spec := "postingLong", apart := false }
def PostingLongSaid : Prop := postingLongRow.holds Try.pinned (OpenSpec.ofChange postingLongSpec)

/-- ITS FALSE NEIGHBOUR: 'it returns false'. Refute it at one input. -/
def postingLongWrong : ChangeSpec := { name := "postingLong", fn := fun _ => fun
  | [d1, d2, d3] => { results := [.lit (.bool false)], args := [d1, d2, d3] }
  | _ => none }
def PostingLongWrongFalsely : Prop := postingLongRow.holds Try.pinned (OpenSpec.ofChange postingLongWrong)

/-- 'glosslaw14.PostingGoes': WHATEVER THE INPUT: true; the input reads as it did. -/
def postingGoesSpec : ChangeSpec := { name := "postingGoes", fn := fun _ => fun
  | [d1, d2] => { results := [.lit (.bool true)], args := [d1, d2] }
  | _ => none }
def postingGoesRow : OpenClaim := { program := "ythimiheeheaaaaa", sum := "937d4aa20fb74bd5fbe419a2aad595e48ab41969414349bf8a71312467dea05f", func := "gloss/glosslaw14.PostingGoes", spec := "postingGoes", apart := false }
def PostingGoesSaid : Prop := postingGoesRow.holds Try.pinned (OpenSpec.ofChange postingGoesSpec)

/-- ITS FALSE NEIGHBOUR: 'it returns false'. Refute it at one input. -/
def postingGoesWrong : ChangeSpec := { name := "postingGoes", fn := fun _ => fun
  | [d1, d2] => { results := [.lit (.bool false)], args := [d1, d2] }
  | _ => none }
def PostingGoesWrongFalsely : Prop := postingGoesRow.holds Try.pinned (OpenSpec.ofChange postingGoesWrong)

/-- 'glosslaw14.PostingWhole': WHATEVER THE INPUT: true; the input reads as it did. -/
def postingWholeSpec : ChangeSpec := { name := "postingWhole", fn := fun _ => fun
  | [d] => { results := [.lit (.bool true)], args := [d] }
  | _ => none }
def postingWholeRow : OpenClaim := { program := "ythimiheeheaaaaa", sum := "937d4aa20fb74bd5fbe419a2aad595e48ab41969414349bf8a71312467dea05f", func := "gloss/glosslaw14.PostingWhole", spec := "postingWhole", apart := false }
def PostingWholeSaid : Prop := postingWholeRow.holds Try.pinned (OpenSpec.ofChange postingWholeSpec)

/-- ITS FALSE NEIGHBOUR: 'it returns false'. Refute it at one input. -/
def postingWholeWrong : ChangeSpec := { name := "postingWhole", fn := fun _ => fun
  | [d] => { results := [.lit (.bool false)], args := [d] }
  | _ => none }
def PostingWholeWrongFalsely : Prop := postingWholeRow.holds Try.pinned (OpenSpec.ofChange postingWholeWrong)

/- THE SECOND FORM. 'bulk': how many values and letters a reading holds, each counted each time it is reached (what is shared counts as often as it is met; a slice's spare places count too). A statement '..UptoSaid' is the law's where the arguments, and the package variables that the reading takes, are together of bulk at most 1048576: NARROWER than '..Said'. Prove '..Said' where nothing that the law and all that it calls make is longer than what came in: it says more and counts as full. Else prove '..UptoSaid'. A law counts once. -/
mutual
def uptoBulk {H : Type} : DataW H → Nat
  | .lit (.string bytes) => bytes.length + 1
  | .lit _ => 1
  | .nil => 1
  | .ptr d => uptoBulk d + 1
  | .slice elems spare => uptoBulkAll elems + uptoBulkAll spare + 1
  | .agg parts => uptoBulkAll parts + 1
  | .iface _ d => uptoBulk d + 1
  | .map entries => uptoBulkEntries entries + 1
  | .held _ => 1
def uptoBulkAll {H : Type} : List (DataW H) → Nat
  | [] => 0
  | d :: r => uptoBulk d + uptoBulkAll r
def uptoBulkEntries {H : Type} : List (Lit × DataW H) → Nat
  | [] => 0
  | x :: r => uptoBulkEntry x + uptoBulkEntries r
def uptoBulkEntry {H : Type} : Lit × DataW H → Nat
  | (.string bytes, d) => bytes.length + uptoBulk d + 1
  | (_, d) => uptoBulk d + 1
 end
def uptoSmall : (H : Type) → List (DataW H) → Bool := fun _ ds => decide (uptoBulkAll ds ≤ 1048576)
def OpenSpec.upto (s : _root_.Go.ChangeSpec) : _root_.Go.OpenSpec := { _root_.Go.OpenSpec.ofChange s with cond := some uptoSmall }

/-- 'glosslaw14.PostingPacks', WHERE WHAT IT READS IS OF BULK AT MOST 1048576: true; the input reads as it did. -/
def postingPacksUptoRow : OpenClaim := { program := "ythimiheeheaaaaa", sum := "937d4aa20fb74bd5fbe419a2aad595e48ab41969414349bf8a71312467dea05f", func := "gloss/glosslaw14.PostingPacks", spec := "postingPacks", recurses := true, apart := false, narrowed := true }
def PostingPacksUptoSaid : Prop := postingPacksUptoRow.holds Try.pinned (OpenSpec.upto postingPacksSpec)

/-- 'glosslaw14.PostingReads', WHERE WHAT IT READS IS OF BULK AT MOST 1048576: true; the input reads as it did. -/
def postingReadsUptoRow : OpenClaim := { program := "ythimiheeheaaaaa", sum := "937d4aa20fb74bd5fbe419a2aad595e48ab41969414349bf8a71312467dea05f", func := "gloss/glosslaw14.PostingReads", spec := "postingReads", recurses := true, apart := false, narrowed := true }
def PostingReadsUptoSaid : Prop := postingReadsUptoRow.holds Try.pinned (OpenSpec.upto postingReadsSpec)

/-- 'glosslaw14.PostingBack', WHERE WHAT IT READS IS OF BULK AT MOST 1048576: true; the input reads as it did. -/
def postingBackUptoRow : OpenClaim := { program := "ythimiheeheaaaaa", sum := "937d4aa20fb74bd5fbe419a2aad595e48ab41969414349bf8a71312467dea05f", func := "gloss/glosslaw14.PostingBack", spec := "postingBack", apart := false, narrowed := true }
def PostingBackUptoSaid : Prop := postingBackUptoRow.holds Try.pinned (OpenSpec.upto postingBackSpec)

/-- 'glosslaw14.PostingNil', WHERE WHAT IT READS IS OF BULK AT MOST 1048576: true; the input reads as it did. -/
def postingNilUptoRow : OpenClaim := { program := "ythimiheeheaaaaa", sum := "937d4aa20fb74bd5fbe419a2aad595e48ab41969414349bf8a71312467dea05f", func := "gloss/glosslaw14.PostingNil", spec := "postingNil", apart := false, narrowed := true }
def PostingNilUptoSaid : Prop := postingNilUptoRow.holds Try.pinned (OpenSpec.upto postingNilSpec)

/-- 'glosslaw14.PostingLong', WHERE WHAT IT READS IS OF BULK AT MOST 1048576: true; the input reads as it did. -/
def postingLongUptoRow : OpenClaim := { program := "ythimiheeheaaaaa", sum := "937d4aa20fb74bd5fbe419a2aad595e48ab41969414349bf8a71312467dea05f", func := "gloss/glosslaw14.PostingLong", spec := "postingLong", apart := false, narrowed := true }
def PostingLongUptoSaid : Prop := postingLongUptoRow.holds Try.pinned (OpenSpec.upto postingLongSpec)

/-- 'glosslaw14.PostingGoes', WHERE WHAT IT READS IS OF BULK AT MOST 1048576: true; the input reads as it did. -/
def postingGoesUptoRow : OpenClaim := { program := "ythimiheeheaaaaa", sum := "937d4aa20fb74bd5fbe419a2aad595e48ab41969414349bf8a71312467dea05f", func := "gloss/glosslaw14.PostingGoes", spec := "postingGoes", apart := false, narrowed := true }
def PostingGoesUptoSaid : Prop := postingGoesUptoRow.holds Try.pinned (OpenSpec.upto postingGoesSpec)

/-- 'glosslaw14.PostingWhole', WHERE WHAT IT READS IS OF BULK AT MOST 1048576: true; the input reads as it did. -/
def postingWholeUptoRow : OpenClaim := { program := "ythimiheeheaaaaa", sum := "937d4aa20fb74bd5fbe419a2aad595e48ab41969414349bf8a71312467dea05f", func := "gloss/glosslaw14.PostingWhole", spec := "postingWhole", apart := false, narrowed := true }
def PostingWholeUptoSaid : Prop := postingWholeUptoRow.holds Try.pinned (OpenSpec.upto postingWholeSpec)

end Rows
end Go.Proofs.Ythimiheeheaaaaa
