/-
  NARROWER THAN 'FOR EVERY INPUT', by the rows' own cells (each row's printed sentence says how): TupleOrder: laid · TupleRows: laid · TupleWrites: laid · TupleBack: laid · TupleOne: laid.
  DERIVED. THE GIVEN ROWS OF THIS SEAT. 5 by the template 'for every input the law returns true; each argument reads behind the call as it read before'; 0 by the template 'total and deterministic' (their statements: YtmjkbmlcclmdkaaDoorTotals.lean).
  GIVEN WITH THE SEED: the statements are not yours to turn. If you find one false, say at which input.
  Laid BY PROGRAM, IN A SANDBOX (cutbox-rows.mjs): the forced cells as the released guide's own fill.sh prints them over the translation 5ea0e82af8b2c134… (all of the seat's roots in one cut). By AI agents, Wed Nov 11 2026. No macro, syntax, notation, axiom, sorry.
-/
import Derived.Test.YtmjkbmlcclmdkaaDoorChecked
import GoSem.PinnedTables
import GoSem.Claim
import GoSem.ClaimJoined
import GoSem.ClaimMapViews
import Derived.JoinedTies
import Derived.KernelRfl
namespace Go.Proofs.YtmjkbmlcclmdkaaDoor
/- THE CELL 'sum', in the pinned program and in every row, IS THE sha256 OF THE DUMP (.gsa) THAT YtmjkbmlcclmdkaaDoorProg.lean LOADS. Nothing in Lean hashes anything: it is a label: what it is worth is what the hold of that sum in a sandbox is worth. -/
noncomputable def Tryd.pinned : Pinned := { name := "ytmjkbmlcclmdkaadoor", sum := "5ea0e82af8b2c134cc4bd8022a3bab4a6aa9eed942b5f881dbb5f1a7914ad6e8", checked := Tryd.checked }
namespace Rows
def none {H : Type} : Left H := { results := [], args := [] }

/- WHAT THE LISTED PACKAGE-LEVEL VARIABLES READ AS WHEN THE CALL BEGINS. Each datum BY PROGRAM (the guide's laid-datum.mjs) off the statement by which the dump's own 'gosem.cut.vars' lays the variable. In a bare row this is a premise. The card (YtmjkbmlcclmdkaaDoorCards.lean) ties it to the program's text. -/
def laid_unicode_utf8_acceptRanges {H : Type} : DataW H := .agg [.agg [.lit (.int .u8 128), .lit (.int .u8 191)], .agg [.lit (.int .u8 160), .lit (.int .u8 191)], .agg [.lit (.int .u8 128), .lit (.int .u8 159)], .agg [.lit (.int .u8 144), .lit (.int .u8 191)], .agg [.lit (.int .u8 128), .lit (.int .u8 143)], .agg [.lit (.int .u8 0), .lit (.int .u8 0)], .agg [.lit (.int .u8 0), .lit (.int .u8 0)], .agg [.lit (.int .u8 0), .lit (.int .u8 0)], .agg [.lit (.int .u8 0), .lit (.int .u8 0)], .agg [.lit (.int .u8 0), .lit (.int .u8 0)], .agg [.lit (.int .u8 0), .lit (.int .u8 0)], .agg [.lit (.int .u8 0), .lit (.int .u8 0)], .agg [.lit (.int .u8 0), .lit (.int .u8 0)], .agg [.lit (.int .u8 0), .lit (.int .u8 0)], .agg [.lit (.int .u8 0), .lit (.int .u8 0)], .agg [.lit (.int .u8 0), .lit (.int .u8 0)]]
/-- One of Go's own tables, pinned by name: the form's constant. -/
def laid_unicode_utf8_first : DataW Unit := Go.Pinned.utf8First

/-- 'glosslaw01.TupleOrder': WHATEVER THE INPUT: true; the input reads as it did. -/
def tupleOrderSpec : ChangeSpec := { name := "tupleOrder", fn := fun _ => fun
  | [d1, d2, d3, d4, d5, d6] => { results := [.lit (.bool true)], args := [d1, d2, d3, d4, d5, d6] }
  | _ => none }
def tupleOrderRow : OpenClaim := { program := "ytmjkbmlcclmdkaadoor", sum := "5ea0e82af8b2c134cc4bd8022a3bab4a6aa9eed942b5f881dbb5f1a7914ad6e8", func := "gloss/glosslaw01.TupleOrder", spec := "tupleOrder", inPlace := ["internal/abi.NoEscape", "internal/bytealg.CountString", "internal/bytealg.IndexByteString", "internal/bytealg.IndexString", "internal/bytealg.MakeNoZero"], named := ["internal/bytealg.MaxLen", "unicode/utf8.first", "unicode/utf8.acceptRanges"], apart := false, laid := [("unicode/utf8.acceptRanges", laid_unicode_utf8_acceptRanges), ("unicode/utf8.first", laid_unicode_utf8_first)] }
def TupleOrderSaid : Prop := tupleOrderRow.holds Tryd.pinned (OpenSpec.ofChange tupleOrderSpec)

/-- ITS FALSE NEIGHBOUR: 'it returns false'. Refute it at one input. -/
def tupleOrderWrong : ChangeSpec := { name := "tupleOrder", fn := fun _ => fun
  | [d1, d2, d3, d4, d5, d6] => { results := [.lit (.bool false)], args := [d1, d2, d3, d4, d5, d6] }
  | _ => none }
def TupleOrderWrongFalsely : Prop := tupleOrderRow.holds Tryd.pinned (OpenSpec.ofChange tupleOrderWrong)

/-- 'glosslaw01.TupleRows': WHATEVER THE INPUT: true; the input reads as it did. -/
def tupleRowsSpec : ChangeSpec := { name := "tupleRows", fn := fun _ => fun
  | [d1, d2, d3, d4] => { results := [.lit (.bool true)], args := [d1, d2, d3, d4] }
  | _ => none }
def tupleRowsRow : OpenClaim := { program := "ytmjkbmlcclmdkaadoor", sum := "5ea0e82af8b2c134cc4bd8022a3bab4a6aa9eed942b5f881dbb5f1a7914ad6e8", func := "gloss/glosslaw01.TupleRows", spec := "tupleRows", inPlace := ["internal/abi.NoEscape", "internal/bytealg.CountString", "internal/bytealg.IndexByteString", "internal/bytealg.IndexString", "internal/bytealg.MakeNoZero"], named := ["internal/bytealg.MaxLen", "unicode/utf8.first", "unicode/utf8.acceptRanges"], apart := false, laid := [("unicode/utf8.acceptRanges", laid_unicode_utf8_acceptRanges), ("unicode/utf8.first", laid_unicode_utf8_first)] }
def TupleRowsSaid : Prop := tupleRowsRow.holds Tryd.pinned (OpenSpec.ofChange tupleRowsSpec)

/-- ITS FALSE NEIGHBOUR: 'it returns false'. Refute it at one input. -/
def tupleRowsWrong : ChangeSpec := { name := "tupleRows", fn := fun _ => fun
  | [d1, d2, d3, d4] => { results := [.lit (.bool false)], args := [d1, d2, d3, d4] }
  | _ => none }
def TupleRowsWrongFalsely : Prop := tupleRowsRow.holds Tryd.pinned (OpenSpec.ofChange tupleRowsWrong)

/-- 'glosslaw01.TupleWrites': WHATEVER THE INPUT: true; the input reads as it did. -/
def tupleWritesSpec : ChangeSpec := { name := "tupleWrites", fn := fun _ => fun
  | [d1, d2] => { results := [.lit (.bool true)], args := [d1, d2] }
  | _ => none }
def tupleWritesRow : OpenClaim := { program := "ytmjkbmlcclmdkaadoor", sum := "5ea0e82af8b2c134cc4bd8022a3bab4a6aa9eed942b5f881dbb5f1a7914ad6e8", func := "gloss/glosslaw01.TupleWrites", spec := "tupleWrites", inPlace := ["internal/abi.NoEscape", "internal/bytealg.CountString", "internal/bytealg.IndexByteString", "internal/bytealg.IndexString", "internal/bytealg.MakeNoZero"], recurses := true, named := ["internal/bytealg.MaxLen", "unicode/utf8.first", "unicode/utf8.acceptRanges"], apart := false, laid := [("unicode/utf8.acceptRanges", laid_unicode_utf8_acceptRanges), ("unicode/utf8.first", laid_unicode_utf8_first)] }
def TupleWritesSaid : Prop := tupleWritesRow.holds Tryd.pinned (OpenSpec.ofChange tupleWritesSpec)

/-- ITS FALSE NEIGHBOUR: 'it returns false'. Refute it at one input. -/
def tupleWritesWrong : ChangeSpec := { name := "tupleWrites", fn := fun _ => fun
  | [d1, d2] => { results := [.lit (.bool false)], args := [d1, d2] }
  | _ => none }
def TupleWritesWrongFalsely : Prop := tupleWritesRow.holds Tryd.pinned (OpenSpec.ofChange tupleWritesWrong)

/-- 'glosslaw01.TupleBack': WHATEVER THE INPUT: true; the input reads as it did. -/
def tupleBackSpec : ChangeSpec := { name := "tupleBack", fn := fun _ => fun
  | [d1, d2] => { results := [.lit (.bool true)], args := [d1, d2] }
  | _ => none }
def tupleBackRow : OpenClaim := { program := "ytmjkbmlcclmdkaadoor", sum := "5ea0e82af8b2c134cc4bd8022a3bab4a6aa9eed942b5f881dbb5f1a7914ad6e8", func := "gloss/glosslaw01.TupleBack", spec := "tupleBack", inPlace := ["internal/abi.NoEscape", "internal/bytealg.CountString", "internal/bytealg.IndexByteString", "internal/bytealg.IndexString", "internal/bytealg.MakeNoZero"], named := ["internal/bytealg.MaxLen", "unicode/utf8.first", "unicode/utf8.acceptRanges"], apart := false, laid := [("unicode/utf8.acceptRanges", laid_unicode_utf8_acceptRanges), ("unicode/utf8.first", laid_unicode_utf8_first)] }
def TupleBackSaid : Prop := tupleBackRow.holds Tryd.pinned (OpenSpec.ofChange tupleBackSpec)

/-- ITS FALSE NEIGHBOUR: 'it returns false'. Refute it at one input. -/
def tupleBackWrong : ChangeSpec := { name := "tupleBack", fn := fun _ => fun
  | [d1, d2] => { results := [.lit (.bool false)], args := [d1, d2] }
  | _ => none }
def TupleBackWrongFalsely : Prop := tupleBackRow.holds Tryd.pinned (OpenSpec.ofChange tupleBackWrong)

/-- 'glosslaw01.TupleOne': WHATEVER THE INPUT: true; the input reads as it did. -/
def tupleOneSpec : ChangeSpec := { name := "tupleOne", fn := fun _ => fun
  | [d1, d2] => { results := [.lit (.bool true)], args := [d1, d2] }
  | _ => none }
def tupleOneRow : OpenClaim := { program := "ytmjkbmlcclmdkaadoor", sum := "5ea0e82af8b2c134cc4bd8022a3bab4a6aa9eed942b5f881dbb5f1a7914ad6e8", func := "gloss/glosslaw01.TupleOne", spec := "tupleOne", inPlace := ["internal/abi.NoEscape", "internal/bytealg.CountString", "internal/bytealg.IndexByteString", "internal/bytealg.IndexString", "internal/bytealg.MakeNoZero"], named := ["internal/bytealg.MaxLen", "unicode/utf8.first", "unicode/utf8.acceptRanges"], apart := false, laid := [("unicode/utf8.acceptRanges", laid_unicode_utf8_acceptRanges), ("unicode/utf8.first", laid_unicode_utf8_first)] }
def TupleOneSaid : Prop := tupleOneRow.holds Tryd.pinned (OpenSpec.ofChange tupleOneSpec)

/-- ITS FALSE NEIGHBOUR: 'it returns false'. Refute it at one input. -/
def tupleOneWrong : ChangeSpec := { name := "tupleOne", fn := fun _ => fun
  | [d1, d2] => { results := [.lit (.bool false)], args := [d1, d2] }
  | _ => none }
def TupleOneWrongFalsely : Prop := tupleOneRow.holds Tryd.pinned (OpenSpec.ofChange tupleOneWrong)

/- THE SECOND FORM. 'bulk': how many values and letters a reading holds, each counted each time it is reached (what is shared counts as often as it is met; a slice's spare places count too). A statement '..UptoSaid' is the law's where the arguments, and the package variables that the reading takes, are together of bulk at most 1048576: NARROWER than '..Said'. Prove '..Said' where nothing that the law and all that it calls make is longer than what came in: it says more and counts as full. Else prove '..UptoSaid'. A law counts once. -/
mutual
def uptoBulk {H : Type} : DataW H → Nat
  | .lit (.string bytes) => bytes.length + 1
  | .lit _ => 1
  | .nil => 1
  | .ptr d => uptoBulk d + 1
  | .slice elems spare => uptoBulkAll elems + uptoBulkAll spare + 1
  | .agg parts => uptoBulkAll parts + 1
  | .iface _ d => uptoBulk d + 1
  | .map entries => uptoBulkEntries entries + 1
  | .held _ => 1
def uptoBulkAll {H : Type} : List (DataW H) → Nat
  | [] => 0
  | d :: r => uptoBulk d + uptoBulkAll r
def uptoBulkEntries {H : Type} : List (Lit × DataW H) → Nat
  | [] => 0
  | x :: r => uptoBulkEntry x + uptoBulkEntries r
def uptoBulkEntry {H : Type} : Lit × DataW H → Nat
  | (.string bytes, d) => bytes.length + uptoBulk d + 1
  | (_, d) => uptoBulk d + 1
 end
def uptoSmall : (H : Type) → List (DataW H) → Bool := fun _ ds => decide (uptoBulkAll ds ≤ 1048576)
def OpenSpec.upto (s : _root_.Go.ChangeSpec) : _root_.Go.OpenSpec := { _root_.Go.OpenSpec.ofChange s with cond := some uptoSmall }

/-- 'glosslaw01.TupleOrder', WHERE WHAT IT READS IS OF BULK AT MOST 1048576: true; the input reads as it did. -/
def tupleOrderUptoRow : OpenClaim := { program := "ytmjkbmlcclmdkaadoor", sum := "5ea0e82af8b2c134cc4bd8022a3bab4a6aa9eed942b5f881dbb5f1a7914ad6e8", func := "gloss/glosslaw01.TupleOrder", spec := "tupleOrder", inPlace := ["internal/abi.NoEscape", "internal/bytealg.CountString", "internal/bytealg.IndexByteString", "internal/bytealg.IndexString", "internal/bytealg.MakeNoZero"], named := ["internal/bytealg.MaxLen", "unicode/utf8.first", "unicode/utf8.acceptRanges"], apart := false, laid := [("unicode/utf8.acceptRanges", laid_unicode_utf8_acceptRanges), ("unicode/utf8.first", laid_unicode_utf8_first)], narrowed := true }
def TupleOrderUptoSaid : Prop := tupleOrderUptoRow.holds Tryd.pinned (OpenSpec.upto tupleOrderSpec)

/-- 'glosslaw01.TupleRows', WHERE WHAT IT READS IS OF BULK AT MOST 1048576: true; the input reads as it did. -/
def tupleRowsUptoRow : OpenClaim := { program := "ytmjkbmlcclmdkaadoor", sum := "5ea0e82af8b2c134cc4bd8022a3bab4a6aa9eed942b5f881dbb5f1a7914ad6e8", func := "gloss/glosslaw01.TupleRows", spec := "tupleRows", inPlace := ["internal/abi.NoEscape", "internal/bytealg.CountString", "internal/bytealg.IndexByteString", "internal/bytealg.IndexString", "internal/bytealg.MakeNoZero"], named := ["internal/bytealg.MaxLen", "unicode/utf8.first", "unicode/utf8.acceptRanges"], apart := false, laid := [("unicode/utf8.acceptRanges", laid_unicode_utf8_acceptRanges), ("unicode/utf8.first", laid_unicode_utf8_first)], narrowed := true }
def TupleRowsUptoSaid : Prop := tupleRowsUptoRow.holds Tryd.pinned (OpenSpec.upto tupleRowsSpec)

/-- 'glosslaw01.TupleWrites', WHERE WHAT IT READS IS OF BULK AT MOST 1048576: true; the input reads as it did. -/
def tupleWritesUptoRow : OpenClaim := { program := "ytmjkbmlcclmdkaadoor", sum := "5ea0e82af8b2c134cc4bd8022a3bab4a6aa9eed942b5f881dbb5f1a7914ad6e8", func := "gloss/glosslaw01.TupleWrites", spec := "tupleWrites", inPlace := ["internal/abi.NoEscape", "internal/bytealg.CountString", "internal/bytealg.IndexByteString", "internal/bytealg.IndexString", "internal/bytealg.MakeNoZero"], recurses := true, named := ["internal/bytealg.MaxLen", "unicode/utf8.first", "unicode/utf8.acceptRanges"], apart := false, laid := [("unicode/utf8.acceptRanges", laid_unicode_utf8_acceptRanges), ("unicode/utf8.first", laid_unicode_utf8_first)], narrowed := true }
def TupleWritesUptoSaid : Prop := tupleWritesUptoRow.holds Tryd.pinned (OpenSpec.upto tupleWritesSpec)

/-- 'glosslaw01.TupleBack', WHERE WHAT IT READS IS OF BULK AT MOST 1048576: true; the input reads as it did. -/
def tupleBackUptoRow : OpenClaim := { program := "ytmjkbmlcclmdkaadoor", sum := "5ea0e82af8b2c134cc4bd8022a3bab4a6aa9eed942b5f881dbb5f1a7914ad6e8", func := "gloss/glosslaw01.TupleBack", spec := "tupleBack", inPlace := ["internal/abi.NoEscape", "internal/bytealg.CountString", "internal/bytealg.IndexByteString", "internal/bytealg.IndexString", "internal/bytealg.MakeNoZero"], named := ["internal/bytealg.MaxLen", "unicode/utf8.first", "unicode/utf8.acceptRanges"], apart := false, laid := [("unicode/utf8.acceptRanges", laid_unicode_utf8_acceptRanges), ("unicode/utf8.first", laid_unicode_utf8_first)], narrowed := true }
def TupleBackUptoSaid : Prop := tupleBackUptoRow.holds Tryd.pinned (OpenSpec.upto tupleBackSpec)

/-- 'glosslaw01.TupleOne', WHERE WHAT IT READS IS OF BULK AT MOST 1048576: true; the input reads as it did. -/
def tupleOneUptoRow : OpenClaim := { program := "ytmjkbmlcclmdkaadoor", sum := "5ea0e82af8b2c134cc4bd8022a3bab4a6aa9eed942b5f881dbb5f1a7914ad6e8", func := "gloss/glosslaw01.TupleOne", spec := "tupleOne", inPlace := ["internal/abi.NoEscape", "internal/bytealg.CountString", "internal/bytealg.IndexByteString", "internal/bytealg.IndexString", "internal/bytealg.MakeNoZero"], named := ["internal/bytealg.MaxLen", "unicode/utf8.first", "unicode/utf8.acceptRanges"], apart := false, laid := [("unicode/utf8.acceptRanges", laid_unicode_utf8_acceptRanges), ("unicode/utf8.first", laid_unicode_utf8_first)], narrowed := true }
def TupleOneUptoSaid : Prop := tupleOneUptoRow.holds Tryd.pinned (OpenSpec.upto tupleOneSpec)

end Rows
end Go.Proofs.YtmjkbmlcclmdkaaDoor
