/-
  NARROWER THAN 'FOR EVERY INPUT', by the rows' own cells (each row's printed sentence says how): QueryChecks: loops · QuerySames: loops · QueryBuilds: loops · QueryParts: loops.
  DERIVED. THE GIVEN ROWS OF THIS SEAT. 4 by the template 'for every input the law returns true; each argument reads behind the call as it read before'; 0 by the template 'total and deterministic' (their statements: YtnhplkkbpmijdaaTotals.lean).
  GIVEN WITH THE SEED: the statements are not yours to turn. If you find one false, say at which input.
  Laid BY PROGRAM, IN A SANDBOX (cutbox-rows.mjs): the forced cells as the released guide's own fill.sh prints them over the translation d027c3d79cacfbfd… (all of the seat's roots in one cut). By AI agents, Wed Nov 11 2026. No macro, syntax, notation, axiom, sorry.
-/
import Derived.Test.YtnhplkkbpmijdaaChecked
import GoSem.Claim
import GoSem.ClaimJoined
import GoSem.ClaimMapViews
import Derived.JoinedTies
import Derived.KernelRfl
namespace Go.Proofs.Ytnhplkkbpmijdaa
/- THE CELL 'sum', in the pinned program and in every row, IS THE sha256 OF THE DUMP (.gsa) THAT YtnhplkkbpmijdaaProg.lean LOADS. Nothing in Lean hashes anything: it is a label: what it is worth is what the hold of that sum in a sandbox is worth. -/
noncomputable def Try.pinned : Pinned := { name := "ytnhplkkbpmijdaa", sum := "d027c3d79cacfbfd7b1b0a5ebe9a8fee3327af8a75050eac57cd5c1b4b8dfb3a", checked := Try.checked }
namespace Rows
def none {H : Type} : Left H := { results := [], args := [] }

/-- 'glosslaw21.QueryChecks': WHATEVER THE INPUT: true; the input reads as it did. -/
def queryChecksSpec : ChangeSpec := { name := "queryChecks", fn := fun _ => fun
  | [d] => { results := [.lit (.bool true)], args := [d] }
  | _ => none }
def queryChecksRow : OpenClaim := { program := "ytnhplkkbpmijdaa", sum := "d027c3d79cacfbfd7b1b0a5ebe9a8fee3327af8a75050eac57cd5c1b4b8dfb3a", func := "gloss/glosslaw21.QueryChecks", spec := "queryChecks", recurses := true, loops := true, apart := false }
def QueryChecksSaid : Prop := queryChecksRow.holds Try.pinned (OpenSpec.ofChange queryChecksSpec)

/-- ITS FALSE NEIGHBOUR: 'it returns false'. Refute it at one input. -/
def queryChecksWrong : ChangeSpec := { name := "queryChecks", fn := fun _ => fun
  | [d] => { results := [.lit (.bool false)], args := [d] }
  | _ => none }
def QueryChecksWrongFalsely : Prop := queryChecksRow.holds Try.pinned (OpenSpec.ofChange queryChecksWrong)

/-- 'glosslaw21.QuerySames': WHATEVER THE INPUT: true; the input reads as it did. -/
def querySamesSpec : ChangeSpec := { name := "querySames", fn := fun _ => fun
  | [d1, d2] => { results := [.lit (.bool true)], args := [d1, d2] }
  | _ => none }
def querySamesRow : OpenClaim := { program := "ytnhplkkbpmijdaa", sum := "d027c3d79cacfbfd7b1b0a5ebe9a8fee3327af8a75050eac57cd5c1b4b8dfb3a", func := "gloss/glosslaw21.QuerySames", spec := "querySames", recurses := true, loops := true, apart := false }
def QuerySamesSaid : Prop := querySamesRow.holds Try.pinned (OpenSpec.ofChange querySamesSpec)

/-- ITS FALSE NEIGHBOUR: 'it returns false'. Refute it at one input. -/
def querySamesWrong : ChangeSpec := { name := "querySames", fn := fun _ => fun
  | [d1, d2] => { results := [.lit (.bool false)], args := [d1, d2] }
  | _ => none }
def QuerySamesWrongFalsely : Prop := querySamesRow.holds Try.pinned (OpenSpec.ofChange querySamesWrong)

/-- 'glosslaw21.QueryBuilds': WHATEVER THE INPUT: true; the input reads as it did. -/
def queryBuildsSpec : ChangeSpec := { name := "queryBuilds", fn := fun _ => fun
  | [d1, d2] => { results := [.lit (.bool true)], args := [d1, d2] }
  | _ => none }
def queryBuildsRow : OpenClaim := { program := "ytnhplkkbpmijdaa", sum := "d027c3d79cacfbfd7b1b0a5ebe9a8fee3327af8a75050eac57cd5c1b4b8dfb3a", func := "gloss/glosslaw21.QueryBuilds", spec := "queryBuilds", recurses := true, loops := true, apart := false }
def QueryBuildsSaid : Prop := queryBuildsRow.holds Try.pinned (OpenSpec.ofChange queryBuildsSpec)

/-- ITS FALSE NEIGHBOUR: 'it returns false'. Refute it at one input. -/
def queryBuildsWrong : ChangeSpec := { name := "queryBuilds", fn := fun _ => fun
  | [d1, d2] => { results := [.lit (.bool false)], args := [d1, d2] }
  | _ => none }
def QueryBuildsWrongFalsely : Prop := queryBuildsRow.holds Try.pinned (OpenSpec.ofChange queryBuildsWrong)

/-- 'glosslaw21.QueryParts': WHATEVER THE INPUT: true; the input reads as it did. -/
def queryPartsSpec : ChangeSpec := { name := "queryParts", fn := fun _ => fun
  | [d1, d2] => { results := [.lit (.bool true)], args := [d1, d2] }
  | _ => none }
def queryPartsRow : OpenClaim := { program := "ytnhplkkbpmijdaa", sum := "d027c3d79cacfbfd7b1b0a5ebe9a8fee3327af8a75050eac57cd5c1b4b8dfb3a", func := "gloss/glosslaw21.QueryParts", spec := "queryParts", recurses := true, loops := true, apart := false }
def QueryPartsSaid : Prop := queryPartsRow.holds Try.pinned (OpenSpec.ofChange queryPartsSpec)

/-- ITS FALSE NEIGHBOUR: 'it returns false'. Refute it at one input. -/
def queryPartsWrong : ChangeSpec := { name := "queryParts", fn := fun _ => fun
  | [d1, d2] => { results := [.lit (.bool false)], args := [d1, d2] }
  | _ => none }
def QueryPartsWrongFalsely : Prop := queryPartsRow.holds Try.pinned (OpenSpec.ofChange queryPartsWrong)

/- THE SECOND FORM. 'bulk': how many values and letters a reading holds, each counted each time it is reached (what is shared counts as often as it is met; a slice's spare places count too). A statement '..UptoSaid' is the law's where the arguments, and the package variables that the reading takes, are together of bulk at most 1048576: NARROWER than '..Said'. Prove '..Said' where nothing that the law and all that it calls make is longer than what came in: it says more and counts as full. Else prove '..UptoSaid'. A law counts once. -/
mutual
def uptoBulk {H : Type} : DataW H → Nat
  | .lit (.string bytes) => bytes.length + 1
  | .lit _ => 1
  | .nil => 1
  | .ptr d => uptoBulk d + 1
  | .slice elems spare => uptoBulkAll elems + uptoBulkAll spare + 1
  | .agg parts => uptoBulkAll parts + 1
  | .iface _ d => uptoBulk d + 1
  | .map entries => uptoBulkEntries entries + 1
  | .held _ => 1
def uptoBulkAll {H : Type} : List (DataW H) → Nat
  | [] => 0
  | d :: r => uptoBulk d + uptoBulkAll r
def uptoBulkEntries {H : Type} : List (Lit × DataW H) → Nat
  | [] => 0
  | x :: r => uptoBulkEntry x + uptoBulkEntries r
def uptoBulkEntry {H : Type} : Lit × DataW H → Nat
  | (.string bytes, d) => bytes.length + uptoBulk d + 1
  | (_, d) => uptoBulk d + 1
 end
def uptoSmall : (H : Type) → List (DataW H) → Bool := fun _ ds => decide (uptoBulkAll ds ≤ 1048576)
def OpenSpec.upto (s : _root_.Go.ChangeSpec) : _root_.Go.OpenSpec := { _root_.Go.OpenSpec.ofChange s with cond := some uptoSmall }

/-- 'glosslaw21.QueryChecks', WHERE WHAT IT READS IS OF BULK AT MOST 1048576: true; the input reads as it did. -/
def queryChecksUptoRow : OpenClaim := { program := "ytnhplkkbpmijdaa", sum := "d027c3d79cacfbfd7b1b0a5ebe9a8fee3327af8a75050eac57cd5c1b4b8dfb3a", func := "gloss/glosslaw21.QueryChecks", spec := "queryChecks", recurses := true, loops := true, apart := false, narrowed := true }
def QueryChecksUptoSaid : Prop := queryChecksUptoRow.holds Try.pinned (OpenSpec.upto queryChecksSpec)

/-- 'glosslaw21.QuerySames', WHERE WHAT IT READS IS OF BULK AT MOST 1048576: true; the input reads as it did. -/
def querySamesUptoRow : OpenClaim := { program := "ytnhplkkbpmijdaa", sum := "d027c3d79cacfbfd7b1b0a5ebe9a8fee3327af8a75050eac57cd5c1b4b8dfb3a", func := "gloss/glosslaw21.QuerySames", spec := "querySames", recurses := true, loops := true, apart := false, narrowed := true }
def QuerySamesUptoSaid : Prop := querySamesUptoRow.holds Try.pinned (OpenSpec.upto querySamesSpec)

/-- 'glosslaw21.QueryBuilds', WHERE WHAT IT READS IS OF BULK AT MOST 1048576: true; the input reads as it did. -/
def queryBuildsUptoRow : OpenClaim := { program := "ytnhplkkbpmijdaa", sum := "d027c3d79cacfbfd7b1b0a5ebe9a8fee3327af8a75050eac57cd5c1b4b8dfb3a", func := "gloss/glosslaw21.QueryBuilds", spec := "queryBuilds", recurses := true, loops := true, apart := false, narrowed := true }
def QueryBuildsUptoSaid : Prop := queryBuildsUptoRow.holds Try.pinned (OpenSpec.upto queryBuildsSpec)

/-- 'glosslaw21.QueryParts', WHERE WHAT IT READS IS OF BULK AT MOST 1048576: true; the input reads as it did. -/
def queryPartsUptoRow : OpenClaim := { program := "ytnhplkkbpmijdaa", sum := "d027c3d79cacfbfd7b1b0a5ebe9a8fee3327af8a75050eac57cd5c1b4b8dfb3a", func := "gloss/glosslaw21.QueryParts", spec := "queryParts", recurses := true, loops := true, apart := false, narrowed := true }
def QueryPartsUptoSaid : Prop := queryPartsUptoRow.holds Try.pinned (OpenSpec.upto queryPartsSpec)

end Rows
end Go.Proofs.Ytnhplkkbpmijdaa
