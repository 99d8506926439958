/-
  No cell of these rows narrows 'for every input' (looked for: loops, veiled, ifaces, maps, wideKeys, modest, calm, conditions, laid).
  DERIVED. THE GIVEN ROWS OF THIS SEAT. 5 by the template 'for every input the law returns true; each argument reads behind the call as it read before'; 0 by the template 'total and deterministic' (their statements: YtehpfcpobemjfaaTotals.lean).
  GIVEN WITH THE SEED: the statements are not yours to turn. If you find one false, say at which input.
  Laid BY PROGRAM, IN A SANDBOX (cutbox-rows.mjs): the forced cells as the released guide's own fill.sh prints them over the translation fadc9c5d0a0d3e6a… (all of the seat's roots in one cut). By AI agents, Wed Nov 11 2026. No macro, syntax, notation, axiom, sorry.
-/
import Derived.Test.YtehpfcpobemjfaaChecked
import GoSem.Claim
import GoSem.ClaimJoined
import GoSem.ClaimMapViews
import Derived.JoinedTies
import Derived.KernelRfl
namespace Go.Proofs.Ytehpfcpobemjfaa
/- THE CELL 'sum', in the pinned program and in every row, IS THE sha256 OF THE DUMP (.gsa) THAT YtehpfcpobemjfaaProg.lean LOADS. Nothing in Lean hashes anything: it is a label: what it is worth is what the hold of that sum in a sandbox is worth. -/
noncomputable def Try.pinned : Pinned := { name := "ytehpfcpobemjfaa", sum := "fadc9c5d0a0d3e6a20348ff0cc6e8a9c15034a7396369b9d7bbca47f315ff08b", checked := Try.checked }
namespace Rows
def none {H : Type} : Left H := { results := [], args := [] }

/-- 'glosslaw03.BitpackPacks': WHATEVER THE INPUT: true; the input reads as it did. -/
def bitpackPacksSpec : ChangeSpec := { name := "bitpackPacks", fn := fun _ => fun
  | [d] => { results := [.lit (.bool true)], args := [d] }
  | _ => none }
def bitpackPacksRow : OpenClaim := { program := "ytehpfcpobemjfaa", sum := "fadc9c5d0a0d3e6a20348ff0cc6e8a9c15034a7396369b9d7bbca47f315ff08b", func := "gloss/glosslaw03.BitpackPacks", spec := "bitpackPacks", recurses := true, apart := false }
def BitpackPacksSaid : Prop := bitpackPacksRow.holds Try.pinned (OpenSpec.ofChange bitpackPacksSpec)

/-- ITS FALSE NEIGHBOUR: 'it returns false'. Refute it at one input. -/
def bitpackPacksWrong : ChangeSpec := { name := "bitpackPacks", fn := fun _ => fun
  | [d] => { results := [.lit (.bool false)], args := [d] }
  | _ => none }
def BitpackPacksWrongFalsely : Prop := bitpackPacksRow.holds Try.pinned (OpenSpec.ofChange bitpackPacksWrong)

/-- 'glosslaw03.BitpackReads': WHATEVER THE INPUT: true; the input reads as it did. -/
def bitpackReadsSpec : ChangeSpec := { name := "bitpackReads", fn := fun _ => fun
  | [d] => { results := [.lit (.bool true)], args := [d] }
  | _ => none }
def bitpackReadsRow : OpenClaim := { program := "ytehpfcpobemjfaa", sum := "fadc9c5d0a0d3e6a20348ff0cc6e8a9c15034a7396369b9d7bbca47f315ff08b", func := "gloss/glosslaw03.BitpackReads", spec := "bitpackReads", recurses := true, apart := false }
def BitpackReadsSaid : Prop := bitpackReadsRow.holds Try.pinned (OpenSpec.ofChange bitpackReadsSpec)

/-- ITS FALSE NEIGHBOUR: 'it returns false'. Refute it at one input. -/
def bitpackReadsWrong : ChangeSpec := { name := "bitpackReads", fn := fun _ => fun
  | [d] => { results := [.lit (.bool false)], args := [d] }
  | _ => none }
def BitpackReadsWrongFalsely : Prop := bitpackReadsRow.holds Try.pinned (OpenSpec.ofChange bitpackReadsWrong)

/-- 'glosslaw03.BitpackBack': WHATEVER THE INPUT: true; the input reads as it did. -/
def bitpackBackSpec : ChangeSpec := { name := "bitpackBack", fn := fun _ => fun
  | [d1, d2] => { results := [.lit (.bool true)], args := [d1, d2] }
  | _ => none }
def bitpackBackRow : OpenClaim := { program := "ytehpfcpobemjfaa", sum := "fadc9c5d0a0d3e6a20348ff0cc6e8a9c15034a7396369b9d7bbca47f315ff08b", func := "gloss/glosslaw03.BitpackBack", spec := "bitpackBack", apart := false }
def BitpackBackSaid : Prop := bitpackBackRow.holds Try.pinned (OpenSpec.ofChange bitpackBackSpec)

/-- ITS FALSE NEIGHBOUR: 'it returns false'. Refute it at one input. -/
def bitpackBackWrong : ChangeSpec := { name := "bitpackBack", fn := fun _ => fun
  | [d1, d2] => { results := [.lit (.bool false)], args := [d1, d2] }
  | _ => none }
def BitpackBackWrongFalsely : Prop := bitpackBackRow.holds Try.pinned (OpenSpec.ofChange bitpackBackWrong)

/-- 'glosslaw03.BitpackSmall': WHATEVER THE INPUT: true; the input reads as it did. -/
def bitpackSmallSpec : ChangeSpec := { name := "bitpackSmall", fn := fun _ => fun
  | [d1, d2] => { results := [.lit (.bool true)], args := [d1, d2] }
  | _ => none }
def bitpackSmallRow : OpenClaim := { program := "ytehpfcpobemjfaa", sum := "fadc9c5d0a0d3e6a20348ff0cc6e8a9c15034a7396369b9d7bbca47f315ff08b", func := "gloss/glosslaw03.BitpackSmall", spec := "bitpackSmall", apart := false }
def BitpackSmallSaid : Prop := bitpackSmallRow.holds Try.pinned (OpenSpec.ofChange bitpackSmallSpec)

/-- ITS FALSE NEIGHBOUR: 'it returns false'. Refute it at one input. -/
def bitpackSmallWrong : ChangeSpec := { name := "bitpackSmall", fn := fun _ => fun
  | [d1, d2] => { results := [.lit (.bool false)], args := [d1, d2] }
  | _ => none }
def BitpackSmallWrongFalsely : Prop := bitpackSmallRow.holds Try.pinned (OpenSpec.ofChange bitpackSmallWrong)

/-- 'glosslaw03.BitpackDeltas': WHATEVER THE INPUT: true; the input reads as it did. -/
def bitpackDeltasSpec : ChangeSpec := { name := "bitpackDeltas", fn := fun _ => fun
  | [d] => { results := [.lit (.bool true)], args := [d] }
  | _ => none }
def bitpackDeltasRow : OpenClaim := { program := "ytehpfcpobemjfaa", sum := "fadc9c5d0a0d3e6a20348ff0cc6e8a9c15034a7396369b9d7bbca47f315ff08b", func := "gloss/glosslaw03.BitpackDeltas", spec := "bitpackDeltas", apart := false }
def BitpackDeltasSaid : Prop := bitpackDeltasRow.holds Try.pinned (OpenSpec.ofChange bitpackDeltasSpec)

/-- ITS FALSE NEIGHBOUR: 'it returns false'. Refute it at one input. -/
def bitpackDeltasWrong : ChangeSpec := { name := "bitpackDeltas", fn := fun _ => fun
  | [d] => { results := [.lit (.bool false)], args := [d] }
  | _ => none }
def BitpackDeltasWrongFalsely : Prop := bitpackDeltasRow.holds Try.pinned (OpenSpec.ofChange bitpackDeltasWrong)

/- THE SECOND FORM. 'bulk': how many values and letters a reading holds, each counted each time it is reached (what is shared counts as often as it is met; a slice's spare places count too). A statement '..UptoSaid' is the law's where the arguments, and the package variables that the reading takes, are together of bulk at most 1048576: NARROWER than '..Said'. Prove '..Said' where nothing that the law and all that it calls make is longer than what came in: it says more and counts as full. Else prove '..UptoSaid'. A law counts once. -/
mutual
def uptoBulk {H : Type} : DataW H → Nat
  | .lit (.string bytes) => bytes.length + 1
  | .lit _ => 1
  | .nil => 1
  | .ptr d => uptoBulk d + 1
  | .slice elems spare => uptoBulkAll elems + uptoBulkAll spare + 1
  | .agg parts => uptoBulkAll parts + 1
  | .iface _ d => uptoBulk d + 1
  | .map entries => uptoBulkEntries entries + 1
  | .held _ => 1
def uptoBulkAll {H : Type} : List (DataW H) → Nat
  | [] => 0
  | d :: r => uptoBulk d + uptoBulkAll r
def uptoBulkEntries {H : Type} : List (Lit × DataW H) → Nat
  | [] => 0
  | x :: r => uptoBulkEntry x + uptoBulkEntries r
def uptoBulkEntry {H : Type} : Lit × DataW H → Nat
  | (.string bytes, d) => bytes.length + uptoBulk d + 1
  | (_, d) => uptoBulk d + 1
 end
def uptoSmall : (H : Type) → List (DataW H) → Bool := fun _ ds => decide (uptoBulkAll ds ≤ 1048576)
def OpenSpec.upto (s : _root_.Go.ChangeSpec) : _root_.Go.OpenSpec := { _root_.Go.OpenSpec.ofChange s with cond := some uptoSmall }

/-- 'glosslaw03.BitpackPacks', WHERE WHAT IT READS IS OF BULK AT MOST 1048576: true; the input reads as it did. -/
def bitpackPacksUptoRow : OpenClaim := { program := "ytehpfcpobemjfaa", sum := "fadc9c5d0a0d3e6a20348ff0cc6e8a9c15034a7396369b9d7bbca47f315ff08b", func := "gloss/glosslaw03.BitpackPacks", spec := "bitpackPacks", recurses := true, apart := false, narrowed := true }
def BitpackPacksUptoSaid : Prop := bitpackPacksUptoRow.holds Try.pinned (OpenSpec.upto bitpackPacksSpec)

/-- 'glosslaw03.BitpackReads', WHERE WHAT IT READS IS OF BULK AT MOST 1048576: true; the input reads as it did. -/
def bitpackReadsUptoRow : OpenClaim := { program := "ytehpfcpobemjfaa", sum := "fadc9c5d0a0d3e6a20348ff0cc6e8a9c15034a7396369b9d7bbca47f315ff08b", func := "gloss/glosslaw03.BitpackReads", spec := "bitpackReads", recurses := true, apart := false, narrowed := true }
def BitpackReadsUptoSaid : Prop := bitpackReadsUptoRow.holds Try.pinned (OpenSpec.upto bitpackReadsSpec)

/-- 'glosslaw03.BitpackBack', WHERE WHAT IT READS IS OF BULK AT MOST 1048576: true; the input reads as it did. -/
def bitpackBackUptoRow : OpenClaim := { program := "ytehpfcpobemjfaa", sum := "fadc9c5d0a0d3e6a20348ff0cc6e8a9c15034a7396369b9d7bbca47f315ff08b", func := "gloss/glosslaw03.BitpackBack", spec := "bitpackBack", apart := false, narrowed := true }
def BitpackBackUptoSaid : Prop := bitpackBackUptoRow.holds Try.pinned (OpenSpec.upto bitpackBackSpec)

/-- 'glosslaw03.BitpackSmall', WHERE WHAT IT READS IS OF BULK AT MOST 1048576: true; the input reads as it did. -/
def bitpackSmallUptoRow : OpenClaim := { program := "ytehpfcpobemjfaa", sum := "fadc9c5d0a0d3e6a20348ff0cc6e8a9c15034a7396369b9d7bbca47f315ff08b", func := "gloss/glosslaw03.BitpackSmall", spec := "bitpackSmall", apart := false, narrowed := true }
def BitpackSmallUptoSaid : Prop := bitpackSmallUptoRow.holds Try.pinned (OpenSpec.upto bitpackSmallSpec)

/-- 'glosslaw03.BitpackDeltas', WHERE WHAT IT READS IS OF BULK AT MOST 1048576: true; the input reads as it did. -/
def bitpackDeltasUptoRow : OpenClaim := { program := "ytehpfcpobemjfaa", sum := "fadc9c5d0a0d3e6a20348ff0cc6e8a9c15034a7396369b9d7bbca47f315ff08b", func := "gloss/glosslaw03.BitpackDeltas", spec := "bitpackDeltas", apart := false, narrowed := true }
def BitpackDeltasUptoSaid : Prop := bitpackDeltasUptoRow.holds Try.pinned (OpenSpec.upto bitpackDeltasSpec)

end Rows
end Go.Proofs.Ytehpfcpobemjfaa
