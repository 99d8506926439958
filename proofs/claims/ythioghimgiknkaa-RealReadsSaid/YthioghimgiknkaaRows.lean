/-
  No cell of these rows narrows 'for every input' (looked for: loops, veiled, ifaces, maps, wideKeys, modest, calm, conditions, laid).
  DERIVED. THE GIVEN ROWS OF THIS SEAT. 5 by the template 'for every input the law returns true; each argument reads behind the call as it read before'; 0 by the template 'total and deterministic' (their statements: YthioghimgiknkaaTotals.lean).
  GIVEN WITH THE SEED: the statements are not yours to turn. If you find one false, say at which input.
  Laid BY PROGRAM, IN A SANDBOX (cutbox-rows.mjs): the forced cells as the released guide's own fill.sh prints them over the translation 0a5dae6328d10e00… (all of the seat's roots in one cut). By AI agents, Wed Nov 11 2026. No macro, syntax, notation, axiom, sorry.
-/
import Derived.Test.YthioghimgiknkaaChecked
import GoSem.Claim
import GoSem.ClaimJoined
import GoSem.ClaimMapViews
import Derived.JoinedTies
import Derived.KernelRfl
namespace Go.Proofs.Ythioghimgiknkaa
/- THE CELL 'sum', in the pinned program and in every row, IS THE sha256 OF THE DUMP (.gsa) THAT YthioghimgiknkaaProg.lean LOADS. Nothing in Lean hashes anything: it is a label: what it is worth is what the hold of that sum in a sandbox is worth. -/
noncomputable def Try.pinned : Pinned := { name := "ythioghimgiknkaa", sum := "0a5dae6328d10e006a3db219cde6f1f82c1750dfc745a5772d9448ce7b2bf1ca", checked := Try.checked }
namespace Rows
def none {H : Type} : Left H := { results := [], args := [] }

/-- 'glosslaw07.RealOrders': WHATEVER THE INPUT: true; the input reads as it did. -/
def realOrdersSpec : ChangeSpec := { name := "realOrders", fn := fun _ => fun
  | [d1, d2, d3] => { results := [.lit (.bool true)], args := [d1, d2, d3] }
  | _ => none }
def realOrdersRow : OpenClaim := { program := "ythioghimgiknkaa", sum := "0a5dae6328d10e006a3db219cde6f1f82c1750dfc745a5772d9448ce7b2bf1ca", func := "gloss/glosslaw07.RealOrders", spec := "realOrders", inPlace := ["math.Float64frombits", "math.Float64bits"], apart := false }
def RealOrdersSaid : Prop := realOrdersRow.holds Try.pinned (OpenSpec.ofChange realOrdersSpec)

/-- ITS FALSE NEIGHBOUR: 'it returns false'. Refute it at one input. -/
def realOrdersWrong : ChangeSpec := { name := "realOrders", fn := fun _ => fun
  | [d1, d2, d3] => { results := [.lit (.bool false)], args := [d1, d2, d3] }
  | _ => none }
def RealOrdersWrongFalsely : Prop := realOrdersRow.holds Try.pinned (OpenSpec.ofChange realOrdersWrong)

/-- 'glosslaw07.RealParses': WHATEVER THE INPUT: true; the input reads as it did. -/
def realParsesSpec : ChangeSpec := { name := "realParses", fn := fun _ => fun
  | [d] => { results := [.lit (.bool true)], args := [d] }
  | _ => none }
def realParsesRow : OpenClaim := { program := "ythioghimgiknkaa", sum := "0a5dae6328d10e006a3db219cde6f1f82c1750dfc745a5772d9448ce7b2bf1ca", func := "gloss/glosslaw07.RealParses", spec := "realParses", inPlace := ["math.Float64frombits", "math.Float64bits"], apart := false }
def RealParsesSaid : Prop := realParsesRow.holds Try.pinned (OpenSpec.ofChange realParsesSpec)

/-- ITS FALSE NEIGHBOUR: 'it returns false'. Refute it at one input. -/
def realParsesWrong : ChangeSpec := { name := "realParses", fn := fun _ => fun
  | [d] => { results := [.lit (.bool false)], args := [d] }
  | _ => none }
def RealParsesWrongFalsely : Prop := realParsesRow.holds Try.pinned (OpenSpec.ofChange realParsesWrong)

/-- 'glosslaw07.RealTotal': WHATEVER THE INPUT: true; the input reads as it did. -/
def realTotalSpec : ChangeSpec := { name := "realTotal", fn := fun _ => fun
  | [d1, d2, d3] => { results := [.lit (.bool true)], args := [d1, d2, d3] }
  | _ => none }
def realTotalRow : OpenClaim := { program := "ythioghimgiknkaa", sum := "0a5dae6328d10e006a3db219cde6f1f82c1750dfc745a5772d9448ce7b2bf1ca", func := "gloss/glosslaw07.RealTotal", spec := "realTotal", inPlace := ["math.Float64frombits", "math.Float64bits"], apart := false }
def RealTotalSaid : Prop := realTotalRow.holds Try.pinned (OpenSpec.ofChange realTotalSpec)

/-- ITS FALSE NEIGHBOUR: 'it returns false'. Refute it at one input. -/
def realTotalWrong : ChangeSpec := { name := "realTotal", fn := fun _ => fun
  | [d1, d2, d3] => { results := [.lit (.bool false)], args := [d1, d2, d3] }
  | _ => none }
def RealTotalWrongFalsely : Prop := realTotalRow.holds Try.pinned (OpenSpec.ofChange realTotalWrong)

/-- 'glosslaw07.RealReads': WHATEVER THE INPUT: true; the input reads as it did. -/
def realReadsSpec : ChangeSpec := { name := "realReads", fn := fun _ => fun
  | [d1, d2] => { results := [.lit (.bool true)], args := [d1, d2] }
  | _ => none }
def realReadsRow : OpenClaim := { program := "ythioghimgiknkaa", sum := "0a5dae6328d10e006a3db219cde6f1f82c1750dfc745a5772d9448ce7b2bf1ca", func := "gloss/glosslaw07.RealReads", spec := "realReads", inPlace := ["math.Float64frombits", "math.Float64bits"], apart := false }
def RealReadsSaid : Prop := realReadsRow.holds Try.pinned (OpenSpec.ofChange realReadsSpec)

/-- ITS FALSE NEIGHBOUR: 'it returns false'. Refute it at one input. -/
def realReadsWrong : ChangeSpec := { name := "realReads", fn := fun _ => fun
  | [d1, d2] => { results := [.lit (.bool false)], args := [d1, d2] }
  | _ => none }
def RealReadsWrongFalsely : Prop := realReadsRow.holds Try.pinned (OpenSpec.ofChange realReadsWrong)

/-- 'glosslaw07.RealEnds': WHATEVER THE INPUT: true; the input reads as it did. -/
def realEndsSpec : ChangeSpec := { name := "realEnds", fn := fun _ => fun
  | [d] => { results := [.lit (.bool true)], args := [d] }
  | _ => none }
def realEndsRow : OpenClaim := { program := "ythioghimgiknkaa", sum := "0a5dae6328d10e006a3db219cde6f1f82c1750dfc745a5772d9448ce7b2bf1ca", func := "gloss/glosslaw07.RealEnds", spec := "realEnds", inPlace := ["math.Float64frombits", "math.Float64bits"], apart := false }
def RealEndsSaid : Prop := realEndsRow.holds Try.pinned (OpenSpec.ofChange realEndsSpec)

/-- ITS FALSE NEIGHBOUR: 'it returns false'. Refute it at one input. -/
def realEndsWrong : ChangeSpec := { name := "realEnds", fn := fun _ => fun
  | [d] => { results := [.lit (.bool false)], args := [d] }
  | _ => none }
def RealEndsWrongFalsely : Prop := realEndsRow.holds Try.pinned (OpenSpec.ofChange realEndsWrong)

/- THE SECOND FORM. 'bulk': how many values and letters a reading holds, each counted each time it is reached (what is shared counts as often as it is met; a slice's spare places count too). A statement '..UptoSaid' is the law's where the arguments, and the package variables that the reading takes, are together of bulk at most 1048576: NARROWER than '..Said'. Prove '..Said' where nothing that the law and all that it calls make is longer than what came in: it says more and counts as full. Else prove '..UptoSaid'. A law counts once. -/
mutual
def uptoBulk {H : Type} : DataW H → Nat
  | .lit (.string bytes) => bytes.length + 1
  | .lit _ => 1
  | .nil => 1
  | .ptr d => uptoBulk d + 1
  | .slice elems spare => uptoBulkAll elems + uptoBulkAll spare + 1
  | .agg parts => uptoBulkAll parts + 1
  | .iface _ d => uptoBulk d + 1
  | .map entries => uptoBulkEntries entries + 1
  | .held _ => 1
def uptoBulkAll {H : Type} : List (DataW H) → Nat
  | [] => 0
  | d :: r => uptoBulk d + uptoBulkAll r
def uptoBulkEntries {H : Type} : List (Lit × DataW H) → Nat
  | [] => 0
  | x :: r => uptoBulkEntry x + uptoBulkEntries r
def uptoBulkEntry {H : Type} : Lit × DataW H → Nat
  | (.string bytes, d) => bytes.length + uptoBulk d + 1
  | (_, d) => uptoBulk d + 1
 end
def uptoSmall : (H : Type) → List (DataW H) → Bool := fun _ ds => decide (uptoBulkAll ds ≤ 1048576)
def OpenSpec.upto (s : _root_.Go.ChangeSpec) : _root_.Go.OpenSpec := { _root_.Go.OpenSpec.ofChange s with cond := some uptoSmall }

/-- 'glosslaw07.RealOrders', WHERE WHAT IT READS IS OF BULK AT MOST 1048576: true; the input reads as it did. -/
def realOrdersUptoRow : OpenClaim := { program := "ythioghimgiknkaa", sum := "0a5dae6328d10e006a3db219cde6f1f82c1750dfc745a5772d9448ce7b2bf1ca", func := "gloss/glosslaw07.RealOrders", spec := "realOrders", inPlace := ["math.Float64frombits", "math.Float64bits"], apart := false, narrowed := true }
def RealOrdersUptoSaid : Prop := realOrdersUptoRow.holds Try.pinned (OpenSpec.upto realOrdersSpec)

/-- 'glosslaw07.RealParses', WHERE WHAT IT READS IS OF BULK AT MOST 1048576: true; the input reads as it did. -/
def realParsesUptoRow : OpenClaim := { program := "ythioghimgiknkaa", sum := "0a5dae6328d10e006a3db219cde6f1f82c1750dfc745a5772d9448ce7b2bf1ca", func := "gloss/glosslaw07.RealParses", spec := "realParses", inPlace := ["math.Float64frombits", "math.Float64bits"], apart := false, narrowed := true }
def RealParsesUptoSaid : Prop := realParsesUptoRow.holds Try.pinned (OpenSpec.upto realParsesSpec)

/-- 'glosslaw07.RealTotal', WHERE WHAT IT READS IS OF BULK AT MOST 1048576: true; the input reads as it did. -/
def realTotalUptoRow : OpenClaim := { program := "ythioghimgiknkaa", sum := "0a5dae6328d10e006a3db219cde6f1f82c1750dfc745a5772d9448ce7b2bf1ca", func := "gloss/glosslaw07.RealTotal", spec := "realTotal", inPlace := ["math.Float64frombits", "math.Float64bits"], apart := false, narrowed := true }
def RealTotalUptoSaid : Prop := realTotalUptoRow.holds Try.pinned (OpenSpec.upto realTotalSpec)

/-- 'glosslaw07.RealReads', WHERE WHAT IT READS IS OF BULK AT MOST 1048576: true; the input reads as it did. -/
def realReadsUptoRow : OpenClaim := { program := "ythioghimgiknkaa", sum := "0a5dae6328d10e006a3db219cde6f1f82c1750dfc745a5772d9448ce7b2bf1ca", func := "gloss/glosslaw07.RealReads", spec := "realReads", inPlace := ["math.Float64frombits", "math.Float64bits"], apart := false, narrowed := true }
def RealReadsUptoSaid : Prop := realReadsUptoRow.holds Try.pinned (OpenSpec.upto realReadsSpec)

/-- 'glosslaw07.RealEnds', WHERE WHAT IT READS IS OF BULK AT MOST 1048576: true; the input reads as it did. -/
def realEndsUptoRow : OpenClaim := { program := "ythioghimgiknkaa", sum := "0a5dae6328d10e006a3db219cde6f1f82c1750dfc745a5772d9448ce7b2bf1ca", func := "gloss/glosslaw07.RealEnds", spec := "realEnds", inPlace := ["math.Float64frombits", "math.Float64bits"], apart := false, narrowed := true }
def RealEndsUptoSaid : Prop := realEndsUptoRow.holds Try.pinned (OpenSpec.upto realEndsSpec)

end Rows
end Go.Proofs.Ythioghimgiknkaa
