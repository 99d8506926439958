/-
  DERIVED. GIVEN WITH THE SEED: THE CARDS: each row of YtmjkbmlcclmdkaaDoorRows.lean that lists a variable, with what it lists TIED to the program's text (the seventh form; the later family's looks); each row that meets fmt, with fmt's text TOLD by the authors' own Lean function (tested against real Go, not proved from fmt's source: count such statements apart). THE CARD IS WHAT COUNTS. Prove the row's statement (the work); the ties are given (YtmjkbmlcclmdkaaDoorTie.lean); close each card by the builder's one call (the guide's Derived/Test/ToyasCard.lean, 'card_holds'). Laid BY PROGRAM, IN A SANDBOX (cutbox-door.mjs). By AI agents, Wed Nov 11 2026. No macro, syntax, notation, axiom, sorry.
-/
import Derived.Test.YtmjkbmlcclmdkaaDoorRows
import GoSem.ClaimSeven
namespace Go.Proofs.YtmjkbmlcclmdkaaDoor
namespace Rows

/-- THE TIED CARD OF 'glosslaw01.TupleOrder'. -/
def tupleOrderCard : Claim7 := { stood := { row := tupleOrderRow, standIns := [], harness := (true, "836bd0c5ad1996d83d8c94f37a49dc2a1f573466fe79a3d786b501ad1f6d44b4"), looks := false }, kinds := [], alts := [], laidByText := true, laidKinds := [.data, .pinned], laidTests := true, laidLooks := .later }
def TupleOrderCardSaid : Prop := Claim7.holds Tryd.pinned (.plain (OpenSpec.ofChange tupleOrderSpec)) tupleOrderCard

/-- THE TIED CARD OF 'glosslaw01.TupleRows'. -/
def tupleRowsCard : Claim7 := { stood := { row := tupleRowsRow, standIns := [], harness := (true, "836bd0c5ad1996d83d8c94f37a49dc2a1f573466fe79a3d786b501ad1f6d44b4"), looks := false }, kinds := [], alts := [], laidByText := true, laidKinds := [.data, .pinned], laidTests := true, laidLooks := .later }
def TupleRowsCardSaid : Prop := Claim7.holds Tryd.pinned (.plain (OpenSpec.ofChange tupleRowsSpec)) tupleRowsCard

/-- THE TIED CARD OF 'glosslaw01.TupleWrites'. -/
def tupleWritesCard : Claim7 := { stood := { row := tupleWritesRow, standIns := [], harness := (true, "836bd0c5ad1996d83d8c94f37a49dc2a1f573466fe79a3d786b501ad1f6d44b4"), looks := false }, kinds := [], alts := [], laidByText := true, laidKinds := [.data, .pinned], laidTests := true, laidLooks := .later }
def TupleWritesCardSaid : Prop := Claim7.holds Tryd.pinned (.plain (OpenSpec.ofChange tupleWritesSpec)) tupleWritesCard

/-- THE TIED CARD OF 'glosslaw01.TupleBack'. -/
def tupleBackCard : Claim7 := { stood := { row := tupleBackRow, standIns := [], harness := (true, "836bd0c5ad1996d83d8c94f37a49dc2a1f573466fe79a3d786b501ad1f6d44b4"), looks := false }, kinds := [], alts := [], laidByText := true, laidKinds := [.data, .pinned], laidTests := true, laidLooks := .later }
def TupleBackCardSaid : Prop := Claim7.holds Tryd.pinned (.plain (OpenSpec.ofChange tupleBackSpec)) tupleBackCard

/-- THE TIED CARD OF 'glosslaw01.TupleOne'. -/
def tupleOneCard : Claim7 := { stood := { row := tupleOneRow, standIns := [], harness := (true, "836bd0c5ad1996d83d8c94f37a49dc2a1f573466fe79a3d786b501ad1f6d44b4"), looks := false }, kinds := [], alts := [], laidByText := true, laidKinds := [.data, .pinned], laidTests := true, laidLooks := .later }
def TupleOneCardSaid : Prop := Claim7.holds Tryd.pinned (.plain (OpenSpec.ofChange tupleOneSpec)) tupleOneCard

/-- THE SECOND FORM's CARD OF 'glosslaw01.TupleOrder'. -/
def tupleOrderUptoCard : Claim7 := { stood := { row := tupleOrderUptoRow, standIns := [], harness := (true, "836bd0c5ad1996d83d8c94f37a49dc2a1f573466fe79a3d786b501ad1f6d44b4"), looks := false }, kinds := [], alts := [], laidByText := true, laidKinds := [.data, .pinned], laidTests := true, laidLooks := .later }
def TupleOrderUptoCardSaid : Prop := Claim7.holds Tryd.pinned (.plain (OpenSpec.upto tupleOrderSpec)) tupleOrderUptoCard

/-- THE SECOND FORM's CARD OF 'glosslaw01.TupleRows'. -/
def tupleRowsUptoCard : Claim7 := { stood := { row := tupleRowsUptoRow, standIns := [], harness := (true, "836bd0c5ad1996d83d8c94f37a49dc2a1f573466fe79a3d786b501ad1f6d44b4"), looks := false }, kinds := [], alts := [], laidByText := true, laidKinds := [.data, .pinned], laidTests := true, laidLooks := .later }
def TupleRowsUptoCardSaid : Prop := Claim7.holds Tryd.pinned (.plain (OpenSpec.upto tupleRowsSpec)) tupleRowsUptoCard

/-- THE SECOND FORM's CARD OF 'glosslaw01.TupleWrites'. -/
def tupleWritesUptoCard : Claim7 := { stood := { row := tupleWritesUptoRow, standIns := [], harness := (true, "836bd0c5ad1996d83d8c94f37a49dc2a1f573466fe79a3d786b501ad1f6d44b4"), looks := false }, kinds := [], alts := [], laidByText := true, laidKinds := [.data, .pinned], laidTests := true, laidLooks := .later }
def TupleWritesUptoCardSaid : Prop := Claim7.holds Tryd.pinned (.plain (OpenSpec.upto tupleWritesSpec)) tupleWritesUptoCard

/-- THE SECOND FORM's CARD OF 'glosslaw01.TupleBack'. -/
def tupleBackUptoCard : Claim7 := { stood := { row := tupleBackUptoRow, standIns := [], harness := (true, "836bd0c5ad1996d83d8c94f37a49dc2a1f573466fe79a3d786b501ad1f6d44b4"), looks := false }, kinds := [], alts := [], laidByText := true, laidKinds := [.data, .pinned], laidTests := true, laidLooks := .later }
def TupleBackUptoCardSaid : Prop := Claim7.holds Tryd.pinned (.plain (OpenSpec.upto tupleBackSpec)) tupleBackUptoCard

/-- THE SECOND FORM's CARD OF 'glosslaw01.TupleOne'. -/
def tupleOneUptoCard : Claim7 := { stood := { row := tupleOneUptoRow, standIns := [], harness := (true, "836bd0c5ad1996d83d8c94f37a49dc2a1f573466fe79a3d786b501ad1f6d44b4"), looks := false }, kinds := [], alts := [], laidByText := true, laidKinds := [.data, .pinned], laidTests := true, laidLooks := .later }
def TupleOneUptoCardSaid : Prop := Claim7.holds Tryd.pinned (.plain (OpenSpec.upto tupleOneSpec)) tupleOneUptoCard
end Rows
end Go.Proofs.YtmjkbmlcclmdkaaDoor
