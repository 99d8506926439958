/-
  No cell of these rows narrows 'for every input' (looked for: loops, veiled, ifaces, maps, wideKeys, modest, calm, conditions, laid).
  DERIVED. THE GIVEN ROWS OF THIS SEAT. 4 by the template 'for every input the law returns true; each argument reads behind the call as it read before'; 0 by the template 'total and deterministic' (their statements: YtiifhlhmkpcaeaaTotals.lean).
  GIVEN WITH THE SEED: the statements are not yours to turn. If you find one false, say at which input.
  Laid BY PROGRAM, IN A SANDBOX (cutbox-rows.mjs): the forced cells as the released guide's own fill.sh prints them over the translation c64ee5d9ffef6f15… (all of the seat's roots in one cut). By AI agents, Wed Nov 11 2026. No macro, syntax, notation, axiom, sorry.
-/
import Derived.Test.YtiifhlhmkpcaeaaChecked
import GoSem.Claim
import GoSem.ClaimJoined
import GoSem.ClaimMapViews
import Derived.JoinedTies
import Derived.KernelRfl
namespace Go.Proofs.Ytiifhlhmkpcaeaa
/- THE CELL 'sum', in the pinned program and in every row, IS THE sha256 OF THE DUMP (.gsa) THAT YtiifhlhmkpcaeaaProg.lean LOADS. Nothing in Lean hashes anything: it is a label: what it is worth is what the hold of that sum in a sandbox is worth. -/
noncomputable def Try.pinned : Pinned := { name := "ytiifhlhmkpcaeaa", sum := "c64ee5d9ffef6f1504c24d2a03890d78bc0dc385b572e4f53e921d83cb26c2f4", checked := Try.checked }
namespace Rows
def none {H : Type} : Left H := { results := [], args := [] }

/-- 'glosslaw15.LivePlays': WHATEVER THE INPUT: true; the input reads as it did. -/
def livePlaysSpec : ChangeSpec := { name := "livePlays", fn := fun _ => fun
  | [d1, d2] => { results := [.lit (.bool true)], args := [d1, d2] }
  | _ => none }
def livePlaysRow : OpenClaim := { program := "ytiifhlhmkpcaeaa", sum := "c64ee5d9ffef6f1504c24d2a03890d78bc0dc385b572e4f53e921d83cb26c2f4", func := "gloss/glosslaw15.LivePlays", spec := "livePlays", recurses := true, apart := false }
def LivePlaysSaid : Prop := livePlaysRow.holds Try.pinned (OpenSpec.ofChange livePlaysSpec)

/-- ITS FALSE NEIGHBOUR: 'it returns false'. Refute it at one input. -/
def livePlaysWrong : ChangeSpec := { name := "livePlays", fn := fun _ => fun
  | [d1, d2] => { results := [.lit (.bool false)], args := [d1, d2] }
  | _ => none }
def LivePlaysWrongFalsely : Prop := livePlaysRow.holds Try.pinned (OpenSpec.ofChange livePlaysWrong)

/-- 'glosslaw15.LiveNil': WHATEVER THE INPUT: true; the input reads as it did. -/
def liveNilSpec : ChangeSpec := { name := "liveNil", fn := fun _ => fun
  | [d] => { results := [.lit (.bool true)], args := [d] }
  | _ => none }
def liveNilRow : OpenClaim := { program := "ytiifhlhmkpcaeaa", sum := "c64ee5d9ffef6f1504c24d2a03890d78bc0dc385b572e4f53e921d83cb26c2f4", func := "gloss/glosslaw15.LiveNil", spec := "liveNil", apart := false }
def LiveNilSaid : Prop := liveNilRow.holds Try.pinned (OpenSpec.ofChange liveNilSpec)

/-- ITS FALSE NEIGHBOUR: 'it returns false'. Refute it at one input. -/
def liveNilWrong : ChangeSpec := { name := "liveNil", fn := fun _ => fun
  | [d] => { results := [.lit (.bool false)], args := [d] }
  | _ => none }
def LiveNilWrongFalsely : Prop := liveNilRow.holds Try.pinned (OpenSpec.ofChange liveNilWrong)

/-- 'glosslaw15.LiveReads': WHATEVER THE INPUT: true; the input reads as it did. -/
def liveReadsSpec : ChangeSpec := { name := "liveReads", fn := fun _ => fun
  | [d] => { results := [.lit (.bool true)], args := [d] }
  | _ => none }
def liveReadsRow : OpenClaim := { program := "ytiifhlhmkpcaeaa", sum := "c64ee5d9ffef6f1504c24d2a03890d78bc0dc385b572e4f53e921d83cb26c2f4", func := "gloss/glosslaw15.LiveReads", spec := "liveReads", recurses := true, apart := false }
def LiveReadsSaid : Prop := liveReadsRow.holds Try.pinned (OpenSpec.ofChange liveReadsSpec)

/-- ITS FALSE NEIGHBOUR: 'it returns false'. Refute it at one input. -/
def liveReadsWrong : ChangeSpec := { name := "liveReads", fn := fun _ => fun
  | [d] => { results := [.lit (.bool false)], args := [d] }
  | _ => none }
def LiveReadsWrongFalsely : Prop := liveReadsRow.holds Try.pinned (OpenSpec.ofChange liveReadsWrong)

/-- 'glosslaw15.LiveBack': WHATEVER THE INPUT: true; the input reads as it did. -/
def liveBackSpec : ChangeSpec := { name := "liveBack", fn := fun _ => fun
  | [d1, d2, d3] => { results := [.lit (.bool true)], args := [d1, d2, d3] }
  | _ => none }
def liveBackRow : OpenClaim := { program := "ytiifhlhmkpcaeaa", sum := "c64ee5d9ffef6f1504c24d2a03890d78bc0dc385b572e4f53e921d83cb26c2f4", func := "gloss/glosslaw15.LiveBack", spec := "liveBack", apart := false }
def LiveBackSaid : Prop := liveBackRow.holds Try.pinned (OpenSpec.ofChange liveBackSpec)

/-- ITS FALSE NEIGHBOUR: 'it returns false'. Refute it at one input. -/
def liveBackWrong : ChangeSpec := { name := "liveBack", fn := fun _ => fun
  | [d1, d2, d3] => { results := [.lit (.bool false)], args := [d1, d2, d3] }
  | _ => none }
def LiveBackWrongFalsely : Prop := liveBackRow.holds Try.pinned (OpenSpec.ofChange liveBackWrong)

/- THE SECOND FORM. 'bulk': how many values and letters a reading holds, each counted each time it is reached (what is shared counts as often as it is met; a slice's spare places count too). A statement '..UptoSaid' is the law's where the arguments, and the package variables that the reading takes, are together of bulk at most 1048576: NARROWER than '..Said'. Prove '..Said' where nothing that the law and all that it calls make is longer than what came in: it says more and counts as full. Else prove '..UptoSaid'. A law counts once. -/
mutual
def uptoBulk {H : Type} : DataW H → Nat
  | .lit (.string bytes) => bytes.length + 1
  | .lit _ => 1
  | .nil => 1
  | .ptr d => uptoBulk d + 1
  | .slice elems spare => uptoBulkAll elems + uptoBulkAll spare + 1
  | .agg parts => uptoBulkAll parts + 1
  | .iface _ d => uptoBulk d + 1
  | .map entries => uptoBulkEntries entries + 1
  | .held _ => 1
def uptoBulkAll {H : Type} : List (DataW H) → Nat
  | [] => 0
  | d :: r => uptoBulk d + uptoBulkAll r
def uptoBulkEntries {H : Type} : List (Lit × DataW H) → Nat
  | [] => 0
  | x :: r => uptoBulkEntry x + uptoBulkEntries r
def uptoBulkEntry {H : Type} : Lit × DataW H → Nat
  | (.string bytes, d) => bytes.length + uptoBulk d + 1
  | (_, d) => uptoBulk d + 1
 end
def uptoSmall : (H : Type) → List (DataW H) → Bool := fun _ ds => decide (uptoBulkAll ds ≤ 1048576)
def OpenSpec.upto (s : _root_.Go.ChangeSpec) : _root_.Go.OpenSpec := { _root_.Go.OpenSpec.ofChange s with cond := some uptoSmall }

/-- 'glosslaw15.LivePlays', WHERE WHAT IT READS IS OF BULK AT MOST 1048576: true; the input reads as it did. -/
def livePlaysUptoRow : OpenClaim := { program := "ytiifhlhmkpcaeaa", sum := "c64ee5d9ffef6f1504c24d2a03890d78bc0dc385b572e4f53e921d83cb26c2f4", func := "gloss/glosslaw15.LivePlays", spec := "livePlays", recurses := true, apart := false, narrowed := true }
def LivePlaysUptoSaid : Prop := livePlaysUptoRow.holds Try.pinned (OpenSpec.upto livePlaysSpec)

/-- 'glosslaw15.LiveNil', WHERE WHAT IT READS IS OF BULK AT MOST 1048576: true; the input reads as it did. -/
def liveNilUptoRow : OpenClaim := { program := "ytiifhlhmkpcaeaa", sum := "c64ee5d9ffef6f1504c24d2a03890d78bc0dc385b572e4f53e921d83cb26c2f4", func := "gloss/glosslaw15.LiveNil", spec := "liveNil", apart := false, narrowed := true }
def LiveNilUptoSaid : Prop := liveNilUptoRow.holds Try.pinned (OpenSpec.upto liveNilSpec)

/-- 'glosslaw15.LiveReads', WHERE WHAT IT READS IS OF BULK AT MOST 1048576: true; the input reads as it did. -/
def liveReadsUptoRow : OpenClaim := { program := "ytiifhlhmkpcaeaa", sum := "c64ee5d9ffef6f1504c24d2a03890d78bc0dc385b572e4f53e921d83cb26c2f4", func := "gloss/glosslaw15.LiveReads", spec := "liveReads", recurses := true, apart := false, narrowed := true }
def LiveReadsUptoSaid : Prop := liveReadsUptoRow.holds Try.pinned (OpenSpec.upto liveReadsSpec)

/-- 'glosslaw15.LiveBack', WHERE WHAT IT READS IS OF BULK AT MOST 1048576: true; the input reads as it did. -/
def liveBackUptoRow : OpenClaim := { program := "ytiifhlhmkpcaeaa", sum := "c64ee5d9ffef6f1504c24d2a03890d78bc0dc385b572e4f53e921d83cb26c2f4", func := "gloss/glosslaw15.LiveBack", spec := "liveBack", apart := false, narrowed := true }
def LiveBackUptoSaid : Prop := liveBackUptoRow.holds Try.pinned (OpenSpec.upto liveBackSpec)

end Rows
end Go.Proofs.Ytiifhlhmkpcaeaa
