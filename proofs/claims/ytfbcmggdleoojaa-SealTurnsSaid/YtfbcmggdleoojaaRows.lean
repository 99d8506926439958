/-
  No cell of these rows narrows 'for every input' (looked for: loops, veiled, ifaces, maps, wideKeys, modest, calm, conditions, laid).
  DERIVED. THE GIVEN ROWS OF THIS SEAT. 4 by the template 'for every input the law returns true; each argument reads behind the call as it read before'; 0 by the template 'total and deterministic' (their statements: YtfbcmggdleoojaaTotals.lean).
  GIVEN WITH THE SEED: the statements are not yours to turn. If you find one false, say at which input.
  Laid BY PROGRAM, IN A SANDBOX (cutbox-rows.mjs): the forced cells as the released guide's own fill.sh prints them over the translation ccba134ff9307770… (all of the seat's roots in one cut). By AI agents, Wed Nov 11 2026. No macro, syntax, notation, axiom, sorry.
-/
import Derived.Test.YtfbcmggdleoojaaChecked
import GoSem.Claim
import GoSem.ClaimJoined
import GoSem.ClaimMapViews
import Derived.JoinedTies
import Derived.KernelRfl
namespace Go.Proofs.Ytfbcmggdleoojaa
/- THE CELL 'sum', in the pinned program and in every row, IS THE sha256 OF THE DUMP (.gsa) THAT YtfbcmggdleoojaaProg.lean LOADS. Nothing in Lean hashes anything: it is a label: what it is worth is what the hold of that sum in a sandbox is worth. -/
noncomputable def Try.pinned : Pinned := { name := "ytfbcmggdleoojaa", sum := "ccba134ff9307770dd7ddf5e05b269ba398e2faa4e89626991e13848b56a552f", checked := Try.checked }
namespace Rows
def none {H : Type} : Left H := { results := [], args := [] }

/-- 'glosslaw02.SealSeals': WHATEVER THE INPUT: true; the input reads as it did. -/
def sealSealsSpec : ChangeSpec := { name := "sealSeals", fn := fun _ => fun
  | [d1, d2] => { results := [.lit (.bool true)], args := [d1, d2] }
  | _ => none }
def sealSealsRow : OpenClaim := { program := "ytfbcmggdleoojaa", sum := "ccba134ff9307770dd7ddf5e05b269ba398e2faa4e89626991e13848b56a552f", func := "gloss/glosslaw02.SealSeals", spec := "sealSeals", recurses := true, apart := false }
def SealSealsSaid : Prop := sealSealsRow.holds Try.pinned (OpenSpec.ofChange sealSealsSpec)

/-- ITS FALSE NEIGHBOUR: 'it returns false'. Refute it at one input. -/
def sealSealsWrong : ChangeSpec := { name := "sealSeals", fn := fun _ => fun
  | [d1, d2] => { results := [.lit (.bool false)], args := [d1, d2] }
  | _ => none }
def SealSealsWrongFalsely : Prop := sealSealsRow.holds Try.pinned (OpenSpec.ofChange sealSealsWrong)

/-- 'glosslaw02.SealOpens': WHATEVER THE INPUT: true; the input reads as it did. -/
def sealOpensSpec : ChangeSpec := { name := "sealOpens", fn := fun _ => fun
  | [d1, d2] => { results := [.lit (.bool true)], args := [d1, d2] }
  | _ => none }
def sealOpensRow : OpenClaim := { program := "ytfbcmggdleoojaa", sum := "ccba134ff9307770dd7ddf5e05b269ba398e2faa4e89626991e13848b56a552f", func := "gloss/glosslaw02.SealOpens", spec := "sealOpens", recurses := true, apart := false }
def SealOpensSaid : Prop := sealOpensRow.holds Try.pinned (OpenSpec.ofChange sealOpensSpec)

/-- ITS FALSE NEIGHBOUR: 'it returns false'. Refute it at one input. -/
def sealOpensWrong : ChangeSpec := { name := "sealOpens", fn := fun _ => fun
  | [d1, d2] => { results := [.lit (.bool false)], args := [d1, d2] }
  | _ => none }
def SealOpensWrongFalsely : Prop := sealOpensRow.holds Try.pinned (OpenSpec.ofChange sealOpensWrong)

/-- 'glosslaw02.SealBack': WHATEVER THE INPUT: true; the input reads as it did. -/
def sealBackSpec : ChangeSpec := { name := "sealBack", fn := fun _ => fun
  | [d1, d2, d3, d4, d5] => { results := [.lit (.bool true)], args := [d1, d2, d3, d4, d5] }
  | _ => none }
def sealBackRow : OpenClaim := { program := "ytfbcmggdleoojaa", sum := "ccba134ff9307770dd7ddf5e05b269ba398e2faa4e89626991e13848b56a552f", func := "gloss/glosslaw02.SealBack", spec := "sealBack", apart := false }
def SealBackSaid : Prop := sealBackRow.holds Try.pinned (OpenSpec.ofChange sealBackSpec)

/-- ITS FALSE NEIGHBOUR: 'it returns false'. Refute it at one input. -/
def sealBackWrong : ChangeSpec := { name := "sealBack", fn := fun _ => fun
  | [d1, d2, d3, d4, d5] => { results := [.lit (.bool false)], args := [d1, d2, d3, d4, d5] }
  | _ => none }
def SealBackWrongFalsely : Prop := sealBackRow.holds Try.pinned (OpenSpec.ofChange sealBackWrong)

/-- 'glosslaw02.SealTurns': WHATEVER THE INPUT: true; the input reads as it did. -/
def sealTurnsSpec : ChangeSpec := { name := "sealTurns", fn := fun _ => fun
  | [d1, d2, d3] => { results := [.lit (.bool true)], args := [d1, d2, d3] }
  | _ => none }
def sealTurnsRow : OpenClaim := { program := "ytfbcmggdleoojaa", sum := "ccba134ff9307770dd7ddf5e05b269ba398e2faa4e89626991e13848b56a552f", func := "gloss/glosslaw02.SealTurns", spec := "sealTurns", apart := false }
def SealTurnsSaid : Prop := sealTurnsRow.holds Try.pinned (OpenSpec.ofChange sealTurnsSpec)

/-- ITS FALSE NEIGHBOUR: 'it returns false'. Refute it at one input. -/
def sealTurnsWrong : ChangeSpec := { name := "sealTurns", fn := fun _ => fun
  | [d1, d2, d3] => { results := [.lit (.bool false)], args := [d1, d2, d3] }
  | _ => none }
def SealTurnsWrongFalsely : Prop := sealTurnsRow.holds Try.pinned (OpenSpec.ofChange sealTurnsWrong)

/- THE SECOND FORM. 'bulk': how many values and letters a reading holds, each counted each time it is reached (what is shared counts as often as it is met; a slice's spare places count too). A statement '..UptoSaid' is the law's where the arguments, and the package variables that the reading takes, are together of bulk at most 1048576: NARROWER than '..Said'. Prove '..Said' where nothing that the law and all that it calls make is longer than what came in: it says more and counts as full. Else prove '..UptoSaid'. A law counts once. -/
mutual
def uptoBulk {H : Type} : DataW H → Nat
  | .lit (.string bytes) => bytes.length + 1
  | .lit _ => 1
  | .nil => 1
  | .ptr d => uptoBulk d + 1
  | .slice elems spare => uptoBulkAll elems + uptoBulkAll spare + 1
  | .agg parts => uptoBulkAll parts + 1
  | .iface _ d => uptoBulk d + 1
  | .map entries => uptoBulkEntries entries + 1
  | .held _ => 1
def uptoBulkAll {H : Type} : List (DataW H) → Nat
  | [] => 0
  | d :: r => uptoBulk d + uptoBulkAll r
def uptoBulkEntries {H : Type} : List (Lit × DataW H) → Nat
  | [] => 0
  | x :: r => uptoBulkEntry x + uptoBulkEntries r
def uptoBulkEntry {H : Type} : Lit × DataW H → Nat
  | (.string bytes, d) => bytes.length + uptoBulk d + 1
  | (_, d) => uptoBulk d + 1
 end
def uptoSmall : (H : Type) → List (DataW H) → Bool := fun _ ds => decide (uptoBulkAll ds ≤ 1048576)
def OpenSpec.upto (s : _root_.Go.ChangeSpec) : _root_.Go.OpenSpec := { _root_.Go.OpenSpec.ofChange s with cond := some uptoSmall }

/-- 'glosslaw02.SealSeals', WHERE WHAT IT READS IS OF BULK AT MOST 1048576: true; the input reads as it did. -/
def sealSealsUptoRow : OpenClaim := { program := "ytfbcmggdleoojaa", sum := "ccba134ff9307770dd7ddf5e05b269ba398e2faa4e89626991e13848b56a552f", func := "gloss/glosslaw02.SealSeals", spec := "sealSeals", recurses := true, apart := false, narrowed := true }
def SealSealsUptoSaid : Prop := sealSealsUptoRow.holds Try.pinned (OpenSpec.upto sealSealsSpec)

/-- 'glosslaw02.SealOpens', WHERE WHAT IT READS IS OF BULK AT MOST 1048576: true; the input reads as it did. -/
def sealOpensUptoRow : OpenClaim := { program := "ytfbcmggdleoojaa", sum := "ccba134ff9307770dd7ddf5e05b269ba398e2faa4e89626991e13848b56a552f", func := "gloss/glosslaw02.SealOpens", spec := "sealOpens", recurses := true, apart := false, narrowed := true }
def SealOpensUptoSaid : Prop := sealOpensUptoRow.holds Try.pinned (OpenSpec.upto sealOpensSpec)

/-- 'glosslaw02.SealBack', WHERE WHAT IT READS IS OF BULK AT MOST 1048576: true; the input reads as it did. -/
def sealBackUptoRow : OpenClaim := { program := "ytfbcmggdleoojaa", sum := "ccba134ff9307770dd7ddf5e05b269ba398e2faa4e89626991e13848b56a552f", func := "gloss/glosslaw02.SealBack", spec := "sealBack", apart := false, narrowed := true }
def SealBackUptoSaid : Prop := sealBackUptoRow.holds Try.pinned (OpenSpec.upto sealBackSpec)

/-- 'glosslaw02.SealTurns', WHERE WHAT IT READS IS OF BULK AT MOST 1048576: true; the input reads as it did. -/
def sealTurnsUptoRow : OpenClaim := { program := "ytfbcmggdleoojaa", sum := "ccba134ff9307770dd7ddf5e05b269ba398e2faa4e89626991e13848b56a552f", func := "gloss/glosslaw02.SealTurns", spec := "sealTurns", apart := false, narrowed := true }
def SealTurnsUptoSaid : Prop := sealTurnsUptoRow.holds Try.pinned (OpenSpec.upto sealTurnsSpec)

end Rows
end Go.Proofs.Ytfbcmggdleoojaa
