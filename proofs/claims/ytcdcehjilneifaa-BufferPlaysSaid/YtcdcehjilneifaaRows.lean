/-
  No cell of these rows narrows 'for every input' (looked for: loops, veiled, ifaces, maps, wideKeys, modest, calm, conditions, laid).
  DERIVED. THE GIVEN ROWS OF THIS SEAT. 4 by the template 'for every input the law returns true; each argument reads behind the call as it read before'; 0 by the template 'total and deterministic' (their statements: YtcdcehjilneifaaTotals.lean).
  GIVEN WITH THE SEED: the statements are not yours to turn. If you find one false, say at which input.
  Laid BY PROGRAM, IN A SANDBOX (cutbox-rows.mjs): the forced cells as the released guide's own fill.sh prints them over the translation 24fd1e2c2241f95c… (all of the seat's roots in one cut). By AI agents, Wed Nov 11 2026. No macro, syntax, notation, axiom, sorry.
-/
import Derived.Test.YtcdcehjilneifaaChecked
import GoSem.Claim
import GoSem.ClaimJoined
import GoSem.ClaimMapViews
import Derived.JoinedTies
import Derived.KernelRfl
namespace Go.Proofs.Ytcdcehjilneifaa
/- THE CELL 'sum', in the pinned program and in every row, IS THE sha256 OF THE DUMP (.gsa) THAT YtcdcehjilneifaaProg.lean LOADS. Nothing in Lean hashes anything: it is a label: what it is worth is what the hold of that sum in a sandbox is worth. -/
noncomputable def Try.pinned : Pinned := { name := "ytcdcehjilneifaa", sum := "24fd1e2c2241f95c760245c5a5cb17f3efca96d7607181cc7afd86ea1210b8c4", checked := Try.checked }
namespace Rows
def none {H : Type} : Left H := { results := [], args := [] }

/-- 'glosslaw17.BufferPieces': WHATEVER THE INPUT: true; the input reads as it did. -/
def bufferPiecesSpec : ChangeSpec := { name := "bufferPieces", fn := fun _ => fun
  | [d] => { results := [.lit (.bool true)], args := [d] }
  | _ => none }
def bufferPiecesRow : OpenClaim := { program := "ytcdcehjilneifaa", sum := "24fd1e2c2241f95c760245c5a5cb17f3efca96d7607181cc7afd86ea1210b8c4", func := "gloss/glosslaw17.BufferPieces", spec := "bufferPieces", inPlace := ["internal/bytealg.abigen_runtime_cmpstring"], unfollowed := true, recurses := true, apart := false }
def BufferPiecesSaid : Prop := bufferPiecesRow.holds Try.pinned (OpenSpec.ofChange bufferPiecesSpec)

/-- ITS FALSE NEIGHBOUR: 'it returns false'. Refute it at one input. -/
def bufferPiecesWrong : ChangeSpec := { name := "bufferPieces", fn := fun _ => fun
  | [d] => { results := [.lit (.bool false)], args := [d] }
  | _ => none }
def BufferPiecesWrongFalsely : Prop := bufferPiecesRow.holds Try.pinned (OpenSpec.ofChange bufferPiecesWrong)

/-- 'glosslaw17.BufferPlays': WHATEVER THE INPUT: true; the input reads as it did. -/
def bufferPlaysSpec : ChangeSpec := { name := "bufferPlays", fn := fun _ => fun
  | [d] => { results := [.lit (.bool true)], args := [d] }
  | _ => none }
def bufferPlaysRow : OpenClaim := { program := "ytcdcehjilneifaa", sum := "24fd1e2c2241f95c760245c5a5cb17f3efca96d7607181cc7afd86ea1210b8c4", func := "gloss/glosslaw17.BufferPlays", spec := "bufferPlays", inPlace := ["internal/bytealg.abigen_runtime_cmpstring"], unfollowed := true, recurses := true, apart := false }
def BufferPlaysSaid : Prop := bufferPlaysRow.holds Try.pinned (OpenSpec.ofChange bufferPlaysSpec)

/-- ITS FALSE NEIGHBOUR: 'it returns false'. Refute it at one input. -/
def bufferPlaysWrong : ChangeSpec := { name := "bufferPlays", fn := fun _ => fun
  | [d] => { results := [.lit (.bool false)], args := [d] }
  | _ => none }
def BufferPlaysWrongFalsely : Prop := bufferPlaysRow.holds Try.pinned (OpenSpec.ofChange bufferPlaysWrong)

/-- 'glosslaw17.BufferOrder': WHATEVER THE INPUT: true; the input reads as it did. -/
def bufferOrderSpec : ChangeSpec := { name := "bufferOrder", fn := fun _ => fun
  | [d1, d2] => { results := [.lit (.bool true)], args := [d1, d2] }
  | _ => none }
def bufferOrderRow : OpenClaim := { program := "ytcdcehjilneifaa", sum := "24fd1e2c2241f95c760245c5a5cb17f3efca96d7607181cc7afd86ea1210b8c4", func := "gloss/glosslaw17.BufferOrder", spec := "bufferOrder", inPlace := ["internal/bytealg.abigen_runtime_cmpstring"], unfollowed := true, recurses := true, apart := false }
def BufferOrderSaid : Prop := bufferOrderRow.holds Try.pinned (OpenSpec.ofChange bufferOrderSpec)

/-- ITS FALSE NEIGHBOUR: 'it returns false'. Refute it at one input. -/
def bufferOrderWrong : ChangeSpec := { name := "bufferOrder", fn := fun _ => fun
  | [d1, d2] => { results := [.lit (.bool false)], args := [d1, d2] }
  | _ => none }
def BufferOrderWrongFalsely : Prop := bufferOrderRow.holds Try.pinned (OpenSpec.ofChange bufferOrderWrong)

/-- 'glosslaw17.BufferNil': WHATEVER THE INPUT: true; the input reads as it did. -/
def bufferNilSpec : ChangeSpec := { name := "bufferNil", fn := fun _ => fun
  | [d] => { results := [.lit (.bool true)], args := [d] }
  | _ => none }
def bufferNilRow : OpenClaim := { program := "ytcdcehjilneifaa", sum := "24fd1e2c2241f95c760245c5a5cb17f3efca96d7607181cc7afd86ea1210b8c4", func := "gloss/glosslaw17.BufferNil", spec := "bufferNil", inPlace := ["internal/bytealg.abigen_runtime_cmpstring"], unfollowed := true, recurses := true, apart := false }
def BufferNilSaid : Prop := bufferNilRow.holds Try.pinned (OpenSpec.ofChange bufferNilSpec)

/-- ITS FALSE NEIGHBOUR: 'it returns false'. Refute it at one input. -/
def bufferNilWrong : ChangeSpec := { name := "bufferNil", fn := fun _ => fun
  | [d] => { results := [.lit (.bool false)], args := [d] }
  | _ => none }
def BufferNilWrongFalsely : Prop := bufferNilRow.holds Try.pinned (OpenSpec.ofChange bufferNilWrong)

/- THE SECOND FORM. 'bulk': how many values and letters a reading holds, each counted each time it is reached (what is shared counts as often as it is met; a slice's spare places count too). A statement '..UptoSaid' is the law's where the arguments, and the package variables that the reading takes, are together of bulk at most 1048576: NARROWER than '..Said'. Prove '..Said' where nothing that the law and all that it calls make is longer than what came in: it says more and counts as full. Else prove '..UptoSaid'. A law counts once. -/
mutual
def uptoBulk {H : Type} : DataW H → Nat
  | .lit (.string bytes) => bytes.length + 1
  | .lit _ => 1
  | .nil => 1
  | .ptr d => uptoBulk d + 1
  | .slice elems spare => uptoBulkAll elems + uptoBulkAll spare + 1
  | .agg parts => uptoBulkAll parts + 1
  | .iface _ d => uptoBulk d + 1
  | .map entries => uptoBulkEntries entries + 1
  | .held _ => 1
def uptoBulkAll {H : Type} : List (DataW H) → Nat
  | [] => 0
  | d :: r => uptoBulk d + uptoBulkAll r
def uptoBulkEntries {H : Type} : List (Lit × DataW H) → Nat
  | [] => 0
  | x :: r => uptoBulkEntry x + uptoBulkEntries r
def uptoBulkEntry {H : Type} : Lit × DataW H → Nat
  | (.string bytes, d) => bytes.length + uptoBulk d + 1
  | (_, d) => uptoBulk d + 1
 end
def uptoSmall : (H : Type) → List (DataW H) → Bool := fun _ ds => decide (uptoBulkAll ds ≤ 1048576)
def OpenSpec.upto (s : _root_.Go.ChangeSpec) : _root_.Go.OpenSpec := { _root_.Go.OpenSpec.ofChange s with cond := some uptoSmall }

/-- 'glosslaw17.BufferPieces', WHERE WHAT IT READS IS OF BULK AT MOST 1048576: true; the input reads as it did. -/
def bufferPiecesUptoRow : OpenClaim := { program := "ytcdcehjilneifaa", sum := "24fd1e2c2241f95c760245c5a5cb17f3efca96d7607181cc7afd86ea1210b8c4", func := "gloss/glosslaw17.BufferPieces", spec := "bufferPieces", inPlace := ["internal/bytealg.abigen_runtime_cmpstring"], unfollowed := true, recurses := true, apart := false, narrowed := true }
def BufferPiecesUptoSaid : Prop := bufferPiecesUptoRow.holds Try.pinned (OpenSpec.upto bufferPiecesSpec)

/-- 'glosslaw17.BufferPlays', WHERE WHAT IT READS IS OF BULK AT MOST 1048576: true; the input reads as it did. -/
def bufferPlaysUptoRow : OpenClaim := { program := "ytcdcehjilneifaa", sum := "24fd1e2c2241f95c760245c5a5cb17f3efca96d7607181cc7afd86ea1210b8c4", func := "gloss/glosslaw17.BufferPlays", spec := "bufferPlays", inPlace := ["internal/bytealg.abigen_runtime_cmpstring"], unfollowed := true, recurses := true, apart := false, narrowed := true }
def BufferPlaysUptoSaid : Prop := bufferPlaysUptoRow.holds Try.pinned (OpenSpec.upto bufferPlaysSpec)

/-- 'glosslaw17.BufferOrder', WHERE WHAT IT READS IS OF BULK AT MOST 1048576: true; the input reads as it did. -/
def bufferOrderUptoRow : OpenClaim := { program := "ytcdcehjilneifaa", sum := "24fd1e2c2241f95c760245c5a5cb17f3efca96d7607181cc7afd86ea1210b8c4", func := "gloss/glosslaw17.BufferOrder", spec := "bufferOrder", inPlace := ["internal/bytealg.abigen_runtime_cmpstring"], unfollowed := true, recurses := true, apart := false, narrowed := true }
def BufferOrderUptoSaid : Prop := bufferOrderUptoRow.holds Try.pinned (OpenSpec.upto bufferOrderSpec)

/-- 'glosslaw17.BufferNil', WHERE WHAT IT READS IS OF BULK AT MOST 1048576: true; the input reads as it did. -/
def bufferNilUptoRow : OpenClaim := { program := "ytcdcehjilneifaa", sum := "24fd1e2c2241f95c760245c5a5cb17f3efca96d7607181cc7afd86ea1210b8c4", func := "gloss/glosslaw17.BufferNil", spec := "bufferNil", inPlace := ["internal/bytealg.abigen_runtime_cmpstring"], unfollowed := true, recurses := true, apart := false, narrowed := true }
def BufferNilUptoSaid : Prop := bufferNilUptoRow.holds Try.pinned (OpenSpec.upto bufferNilSpec)

end Rows
end Go.Proofs.Ytcdcehjilneifaa
