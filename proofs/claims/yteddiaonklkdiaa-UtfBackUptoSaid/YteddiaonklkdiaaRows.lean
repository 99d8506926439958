/-
  No cell of these rows narrows 'for every input' (looked for: loops, veiled, ifaces, maps, wideKeys, modest, calm, conditions, laid).
  DERIVED. THE GIVEN ROWS OF THIS SEAT. 6 by the template 'for every input the law returns true; each argument reads behind the call as it read before'; 0 by the template 'total and deterministic' (their statements: YteddiaonklkdiaaTotals.lean).
  GIVEN WITH THE SEED: the statements are not yours to turn. If you find one false, say at which input.
  Laid BY PROGRAM, IN A SANDBOX (cutbox-rows.mjs): the forced cells as the released guide's own fill.sh prints them over the translation 284dc4f5b48e806f… (all of the seat's roots in one cut). By AI agents, Wed Nov 11 2026. No macro, syntax, notation, axiom, sorry.
-/
import Derived.Test.YteddiaonklkdiaaChecked
import GoSem.Claim
import GoSem.ClaimJoined
import GoSem.ClaimMapViews
import Derived.JoinedTies
import Derived.KernelRfl
namespace Go.Proofs.Yteddiaonklkdiaa
/- THE CELL 'sum', in the pinned program and in every row, IS THE sha256 OF THE DUMP (.gsa) THAT YteddiaonklkdiaaProg.lean LOADS. Nothing in Lean hashes anything: it is a label: what it is worth is what the hold of that sum in a sandbox is worth. -/
noncomputable def Try.pinned : Pinned := { name := "yteddiaonklkdiaa", sum := "284dc4f5b48e806f9c2cbb38a18fee8ecd078a97df550b3bd86519b90381b442", checked := Try.checked }
namespace Rows
def none {H : Type} : Left H := { results := [], args := [] }

/-- 'glosslaw05.UtfEncodes': WHATEVER THE INPUT: true; the input reads as it did. -/
def utfEncodesSpec : ChangeSpec := { name := "utfEncodes", fn := fun _ => fun
  | [d] => { results := [.lit (.bool true)], args := [d] }
  | _ => none }
def utfEncodesRow : OpenClaim := { program := "yteddiaonklkdiaa", sum := "284dc4f5b48e806f9c2cbb38a18fee8ecd078a97df550b3bd86519b90381b442", func := "gloss/glosslaw05.UtfEncodes", spec := "utfEncodes", apart := false }
def UtfEncodesSaid : Prop := utfEncodesRow.holds Try.pinned (OpenSpec.ofChange utfEncodesSpec)

/-- ITS FALSE NEIGHBOUR: 'it returns false'. Refute it at one input. -/
def utfEncodesWrong : ChangeSpec := { name := "utfEncodes", fn := fun _ => fun
  | [d] => { results := [.lit (.bool false)], args := [d] }
  | _ => none }
def UtfEncodesWrongFalsely : Prop := utfEncodesRow.holds Try.pinned (OpenSpec.ofChange utfEncodesWrong)

/-- 'glosslaw05.UtfDecodes': WHATEVER THE INPUT: true; the input reads as it did. -/
def utfDecodesSpec : ChangeSpec := { name := "utfDecodes", fn := fun _ => fun
  | [d] => { results := [.lit (.bool true)], args := [d] }
  | _ => none }
def utfDecodesRow : OpenClaim := { program := "yteddiaonklkdiaa", sum := "284dc4f5b48e806f9c2cbb38a18fee8ecd078a97df550b3bd86519b90381b442", func := "gloss/glosslaw05.UtfDecodes", spec := "utfDecodes", apart := false }
def UtfDecodesSaid : Prop := utfDecodesRow.holds Try.pinned (OpenSpec.ofChange utfDecodesSpec)

/-- ITS FALSE NEIGHBOUR: 'it returns false'. Refute it at one input. -/
def utfDecodesWrong : ChangeSpec := { name := "utfDecodes", fn := fun _ => fun
  | [d] => { results := [.lit (.bool false)], args := [d] }
  | _ => none }
def UtfDecodesWrongFalsely : Prop := utfDecodesRow.holds Try.pinned (OpenSpec.ofChange utfDecodesWrong)

/-- 'glosslaw05.UtfClasses': WHATEVER THE INPUT: true; the input reads as it did. -/
def utfClassesSpec : ChangeSpec := { name := "utfClasses", fn := fun _ => fun
  | [d] => { results := [.lit (.bool true)], args := [d] }
  | _ => none }
def utfClassesRow : OpenClaim := { program := "yteddiaonklkdiaa", sum := "284dc4f5b48e806f9c2cbb38a18fee8ecd078a97df550b3bd86519b90381b442", func := "gloss/glosslaw05.UtfClasses", spec := "utfClasses", apart := false }
def UtfClassesSaid : Prop := utfClassesRow.holds Try.pinned (OpenSpec.ofChange utfClassesSpec)

/-- ITS FALSE NEIGHBOUR: 'it returns false'. Refute it at one input. -/
def utfClassesWrong : ChangeSpec := { name := "utfClasses", fn := fun _ => fun
  | [d] => { results := [.lit (.bool false)], args := [d] }
  | _ => none }
def UtfClassesWrongFalsely : Prop := utfClassesRow.holds Try.pinned (OpenSpec.ofChange utfClassesWrong)

/-- 'glosslaw05.UtfBack': WHATEVER THE INPUT: true; the input reads as it did. -/
def utfBackSpec : ChangeSpec := { name := "utfBack", fn := fun _ => fun
  | [d1, d2, d3] => { results := [.lit (.bool true)], args := [d1, d2, d3] }
  | _ => none }
def utfBackRow : OpenClaim := { program := "yteddiaonklkdiaa", sum := "284dc4f5b48e806f9c2cbb38a18fee8ecd078a97df550b3bd86519b90381b442", func := "gloss/glosslaw05.UtfBack", spec := "utfBack", apart := false }
def UtfBackSaid : Prop := utfBackRow.holds Try.pinned (OpenSpec.ofChange utfBackSpec)

/-- ITS FALSE NEIGHBOUR: 'it returns false'. Refute it at one input. -/
def utfBackWrong : ChangeSpec := { name := "utfBack", fn := fun _ => fun
  | [d1, d2, d3] => { results := [.lit (.bool false)], args := [d1, d2, d3] }
  | _ => none }
def UtfBackWrongFalsely : Prop := utfBackRow.holds Try.pinned (OpenSpec.ofChange utfBackWrong)

/-- 'glosslaw05.UtfFolds': WHATEVER THE INPUT: true; the input reads as it did. -/
def utfFoldsSpec : ChangeSpec := { name := "utfFolds", fn := fun _ => fun
  | [d] => { results := [.lit (.bool true)], args := [d] }
  | _ => none }
def utfFoldsRow : OpenClaim := { program := "yteddiaonklkdiaa", sum := "284dc4f5b48e806f9c2cbb38a18fee8ecd078a97df550b3bd86519b90381b442", func := "gloss/glosslaw05.UtfFolds", spec := "utfFolds", apart := false }
def UtfFoldsSaid : Prop := utfFoldsRow.holds Try.pinned (OpenSpec.ofChange utfFoldsSpec)

/-- ITS FALSE NEIGHBOUR: 'it returns false'. Refute it at one input. -/
def utfFoldsWrong : ChangeSpec := { name := "utfFolds", fn := fun _ => fun
  | [d] => { results := [.lit (.bool false)], args := [d] }
  | _ => none }
def UtfFoldsWrongFalsely : Prop := utfFoldsRow.holds Try.pinned (OpenSpec.ofChange utfFoldsWrong)

/-- 'glosslaw05.UtfOrder': WHATEVER THE INPUT: true; the input reads as it did. -/
def utfOrderSpec : ChangeSpec := { name := "utfOrder", fn := fun _ => fun
  | [d1, d2] => { results := [.lit (.bool true)], args := [d1, d2] }
  | _ => none }
def utfOrderRow : OpenClaim := { program := "yteddiaonklkdiaa", sum := "284dc4f5b48e806f9c2cbb38a18fee8ecd078a97df550b3bd86519b90381b442", func := "gloss/glosslaw05.UtfOrder", spec := "utfOrder", apart := false }
def UtfOrderSaid : Prop := utfOrderRow.holds Try.pinned (OpenSpec.ofChange utfOrderSpec)

/-- ITS FALSE NEIGHBOUR: 'it returns false'. Refute it at one input. -/
def utfOrderWrong : ChangeSpec := { name := "utfOrder", fn := fun _ => fun
  | [d1, d2] => { results := [.lit (.bool false)], args := [d1, d2] }
  | _ => none }
def UtfOrderWrongFalsely : Prop := utfOrderRow.holds Try.pinned (OpenSpec.ofChange utfOrderWrong)

/- THE SECOND FORM. 'bulk': how many values and letters a reading holds, each counted each time it is reached (what is shared counts as often as it is met; a slice's spare places count too). A statement '..UptoSaid' is the law's where the arguments, and the package variables that the reading takes, are together of bulk at most 1048576: NARROWER than '..Said'. Prove '..Said' where nothing that the law and all that it calls make is longer than what came in: it says more and counts as full. Else prove '..UptoSaid'. A law counts once. -/
mutual
def uptoBulk {H : Type} : DataW H → Nat
  | .lit (.string bytes) => bytes.length + 1
  | .lit _ => 1
  | .nil => 1
  | .ptr d => uptoBulk d + 1
  | .slice elems spare => uptoBulkAll elems + uptoBulkAll spare + 1
  | .agg parts => uptoBulkAll parts + 1
  | .iface _ d => uptoBulk d + 1
  | .map entries => uptoBulkEntries entries + 1
  | .held _ => 1
def uptoBulkAll {H : Type} : List (DataW H) → Nat
  | [] => 0
  | d :: r => uptoBulk d + uptoBulkAll r
def uptoBulkEntries {H : Type} : List (Lit × DataW H) → Nat
  | [] => 0
  | x :: r => uptoBulkEntry x + uptoBulkEntries r
def uptoBulkEntry {H : Type} : Lit × DataW H → Nat
  | (.string bytes, d) => bytes.length + uptoBulk d + 1
  | (_, d) => uptoBulk d + 1
 end
def uptoSmall : (H : Type) → List (DataW H) → Bool := fun _ ds => decide (uptoBulkAll ds ≤ 1048576)
def OpenSpec.upto (s : _root_.Go.ChangeSpec) : _root_.Go.OpenSpec := { _root_.Go.OpenSpec.ofChange s with cond := some uptoSmall }

/-- 'glosslaw05.UtfEncodes', WHERE WHAT IT READS IS OF BULK AT MOST 1048576: true; the input reads as it did. -/
def utfEncodesUptoRow : OpenClaim := { program := "yteddiaonklkdiaa", sum := "284dc4f5b48e806f9c2cbb38a18fee8ecd078a97df550b3bd86519b90381b442", func := "gloss/glosslaw05.UtfEncodes", spec := "utfEncodes", apart := false, narrowed := true }
def UtfEncodesUptoSaid : Prop := utfEncodesUptoRow.holds Try.pinned (OpenSpec.upto utfEncodesSpec)

/-- 'glosslaw05.UtfDecodes', WHERE WHAT IT READS IS OF BULK AT MOST 1048576: true; the input reads as it did. -/
def utfDecodesUptoRow : OpenClaim := { program := "yteddiaonklkdiaa", sum := "284dc4f5b48e806f9c2cbb38a18fee8ecd078a97df550b3bd86519b90381b442", func := "gloss/glosslaw05.UtfDecodes", spec := "utfDecodes", apart := false, narrowed := true }
def UtfDecodesUptoSaid : Prop := utfDecodesUptoRow.holds Try.pinned (OpenSpec.upto utfDecodesSpec)

/-- 'glosslaw05.UtfClasses', WHERE WHAT IT READS IS OF BULK AT MOST 1048576: true; the input reads as it did. -/
def utfClassesUptoRow : OpenClaim := { program := "yteddiaonklkdiaa", sum := "284dc4f5b48e806f9c2cbb38a18fee8ecd078a97df550b3bd86519b90381b442", func := "gloss/glosslaw05.UtfClasses", spec := "utfClasses", apart := false, narrowed := true }
def UtfClassesUptoSaid : Prop := utfClassesUptoRow.holds Try.pinned (OpenSpec.upto utfClassesSpec)

/-- 'glosslaw05.UtfBack', WHERE WHAT IT READS IS OF BULK AT MOST 1048576: true; the input reads as it did. -/
def utfBackUptoRow : OpenClaim := { program := "yteddiaonklkdiaa", sum := "284dc4f5b48e806f9c2cbb38a18fee8ecd078a97df550b3bd86519b90381b442", func := "gloss/glosslaw05.UtfBack", spec := "utfBack", apart := false, narrowed := true }
def UtfBackUptoSaid : Prop := utfBackUptoRow.holds Try.pinned (OpenSpec.upto utfBackSpec)

/-- 'glosslaw05.UtfFolds', WHERE WHAT IT READS IS OF BULK AT MOST 1048576: true; the input reads as it did. -/
def utfFoldsUptoRow : OpenClaim := { program := "yteddiaonklkdiaa", sum := "284dc4f5b48e806f9c2cbb38a18fee8ecd078a97df550b3bd86519b90381b442", func := "gloss/glosslaw05.UtfFolds", spec := "utfFolds", apart := false, narrowed := true }
def UtfFoldsUptoSaid : Prop := utfFoldsUptoRow.holds Try.pinned (OpenSpec.upto utfFoldsSpec)

/-- 'glosslaw05.UtfOrder', WHERE WHAT IT READS IS OF BULK AT MOST 1048576: true; the input reads as it did. -/
def utfOrderUptoRow : OpenClaim := { program := "yteddiaonklkdiaa", sum := "284dc4f5b48e806f9c2cbb38a18fee8ecd078a97df550b3bd86519b90381b442", func := "gloss/glosslaw05.UtfOrder", spec := "utfOrder", apart := false, narrowed := true }
def UtfOrderUptoSaid : Prop := utfOrderUptoRow.holds Try.pinned (OpenSpec.upto utfOrderSpec)

end Rows
end Go.Proofs.Yteddiaonklkdiaa
