/-
  DERIVED. GIVEN WITH THE SEED: THE CARDS: each row of YtmelajefpihaiaaDoorRows.lean that lists a variable, with what it lists TIED to the program's text (the seventh form; the later family's looks); each row that meets fmt, with fmt's text TOLD by the authors' own Lean function (tested against real Go, not proved from fmt's source: count such statements apart). THE CARD IS WHAT COUNTS. Prove the row's statement (the work); the ties are given (YtmelajefpihaiaaDoorTie.lean); close each card by the builder's one call (the guide's Derived/Test/ToyasCard.lean, 'card_holds'). Laid BY PROGRAM, IN A SANDBOX (cutbox-door.mjs). By AI agents, Wed Nov 11 2026. No macro, syntax, notation, axiom, sorry.
-/
import Derived.Test.YtmelajefpihaiaaDoorRows
import GoSem.ClaimSeven
namespace Go.Proofs.YtmelajefpihaiaaDoor
namespace Rows

/-- THE TIED CARD OF 'dovetaillaw03.SexpNames'. -/
def sexpNamesCard : Claim7 := { stood := { row := sexpNamesRow, standIns := [], harness := (true, "2a0561b589a1c591537f48c8ccd2df1c5166056934340b9dbc9a3c9e66dc4c22"), looks := true }, kinds := [], alts := [], laidByText := true, laidKinds := [.data, .data, .data, .sentinel, .sentinel], laidTests := true, laidLooks := .later }
def SexpNamesCardSaid : Prop := Claim7.holds Tryd.pinned (.plain (OpenSpec.ofChange sexpNamesSpec)) sexpNamesCard

/-- THE TIED CARD OF 'dovetaillaw03.SexpParses'. -/
def sexpParsesCard : Claim7 := { stood := { row := sexpParsesRow, standIns := [], harness := (true, "2a0561b589a1c591537f48c8ccd2df1c5166056934340b9dbc9a3c9e66dc4c22"), looks := true }, kinds := [], alts := [], laidByText := true, laidKinds := [.data, .data, .data, .sentinel, .sentinel], laidTests := true, laidLooks := .later }
def SexpParsesCardSaid : Prop := Claim7.holds Tryd.pinned (.plain (OpenSpec.ofChange sexpParsesSpec)) sexpParsesCard

/-- THE TIED CARD OF 'dovetaillaw03.SexpJoins'. -/
def sexpJoinsCard : Claim7 := { stood := { row := sexpJoinsRow, standIns := [], harness := (true, "2a0561b589a1c591537f48c8ccd2df1c5166056934340b9dbc9a3c9e66dc4c22"), looks := true }, kinds := [], alts := [], laidByText := true, laidKinds := [.data, .data, .data, .sentinel, .sentinel], laidTests := true, laidLooks := .later }
def SexpJoinsCardSaid : Prop := Claim7.holds Tryd.pinned (.plain (OpenSpec.ofChange sexpJoinsSpec)) sexpJoinsCard

/-- THE TIED CARD OF 'dovetaillaw03.SexpWrapped'. -/
def sexpWrappedCard : Claim7 := { stood := { row := sexpWrappedRow, standIns := [], harness := (true, "2a0561b589a1c591537f48c8ccd2df1c5166056934340b9dbc9a3c9e66dc4c22"), looks := true }, kinds := [], alts := [], laidByText := true, laidKinds := [.data, .data, .data, .sentinel, .sentinel], laidTests := true, laidLooks := .later }
def SexpWrappedCardSaid : Prop := Claim7.holds Tryd.pinned (.plain (OpenSpec.ofChange sexpWrappedSpec)) sexpWrappedCard

/-- THE TIED CARD OF 'dovetaillaw03.SexpPrints'. -/
def sexpPrintsCard : Claim7 := { stood := { row := sexpPrintsRow, standIns := [], harness := (true, "2a0561b589a1c591537f48c8ccd2df1c5166056934340b9dbc9a3c9e66dc4c22"), looks := true }, kinds := [], alts := [], laidByText := true, laidKinds := [.data, .data, .data, .sentinel, .sentinel], laidTests := true, laidLooks := .later }
def SexpPrintsCardSaid : Prop := Claim7.holds Tryd.pinned (.plain (OpenSpec.ofChange sexpPrintsSpec)) sexpPrintsCard

/-- THE TIED CARD OF 'dovetaillaw03.SexpTwice'. -/
def sexpTwiceCard : Claim7 := { stood := { row := sexpTwiceRow, standIns := [], harness := (true, "2a0561b589a1c591537f48c8ccd2df1c5166056934340b9dbc9a3c9e66dc4c22"), looks := true }, kinds := [], alts := [], laidByText := true, laidKinds := [.data, .data, .data, .sentinel, .sentinel], laidTests := true, laidLooks := .later }
def SexpTwiceCardSaid : Prop := Claim7.holds Tryd.pinned (.plain (OpenSpec.ofChange sexpTwiceSpec)) sexpTwiceCard

/-- THE SECOND FORM's CARD OF 'dovetaillaw03.SexpNames'. -/
def sexpNamesUptoCard : Claim7 := { stood := { row := sexpNamesUptoRow, standIns := [], harness := (true, "2a0561b589a1c591537f48c8ccd2df1c5166056934340b9dbc9a3c9e66dc4c22"), looks := true }, kinds := [], alts := [], laidByText := true, laidKinds := [.data, .data, .data, .sentinel, .sentinel], laidTests := true, laidLooks := .later }
def SexpNamesUptoCardSaid : Prop := Claim7.holds Tryd.pinned (.plain (OpenSpec.upto sexpNamesSpec)) sexpNamesUptoCard

/-- THE SECOND FORM's CARD OF 'dovetaillaw03.SexpParses'. -/
def sexpParsesUptoCard : Claim7 := { stood := { row := sexpParsesUptoRow, standIns := [], harness := (true, "2a0561b589a1c591537f48c8ccd2df1c5166056934340b9dbc9a3c9e66dc4c22"), looks := true }, kinds := [], alts := [], laidByText := true, laidKinds := [.data, .data, .data, .sentinel, .sentinel], laidTests := true, laidLooks := .later }
def SexpParsesUptoCardSaid : Prop := Claim7.holds Tryd.pinned (.plain (OpenSpec.upto sexpParsesSpec)) sexpParsesUptoCard

/-- THE SECOND FORM's CARD OF 'dovetaillaw03.SexpJoins'. -/
def sexpJoinsUptoCard : Claim7 := { stood := { row := sexpJoinsUptoRow, standIns := [], harness := (true, "2a0561b589a1c591537f48c8ccd2df1c5166056934340b9dbc9a3c9e66dc4c22"), looks := true }, kinds := [], alts := [], laidByText := true, laidKinds := [.data, .data, .data, .sentinel, .sentinel], laidTests := true, laidLooks := .later }
def SexpJoinsUptoCardSaid : Prop := Claim7.holds Tryd.pinned (.plain (OpenSpec.upto sexpJoinsSpec)) sexpJoinsUptoCard

/-- THE SECOND FORM's CARD OF 'dovetaillaw03.SexpWrapped'. -/
def sexpWrappedUptoCard : Claim7 := { stood := { row := sexpWrappedUptoRow, standIns := [], harness := (true, "2a0561b589a1c591537f48c8ccd2df1c5166056934340b9dbc9a3c9e66dc4c22"), looks := true }, kinds := [], alts := [], laidByText := true, laidKinds := [.data, .data, .data, .sentinel, .sentinel], laidTests := true, laidLooks := .later }
def SexpWrappedUptoCardSaid : Prop := Claim7.holds Tryd.pinned (.plain (OpenSpec.upto sexpWrappedSpec)) sexpWrappedUptoCard

/-- THE SECOND FORM's CARD OF 'dovetaillaw03.SexpPrints'. -/
def sexpPrintsUptoCard : Claim7 := { stood := { row := sexpPrintsUptoRow, standIns := [], harness := (true, "2a0561b589a1c591537f48c8ccd2df1c5166056934340b9dbc9a3c9e66dc4c22"), looks := true }, kinds := [], alts := [], laidByText := true, laidKinds := [.data, .data, .data, .sentinel, .sentinel], laidTests := true, laidLooks := .later }
def SexpPrintsUptoCardSaid : Prop := Claim7.holds Tryd.pinned (.plain (OpenSpec.upto sexpPrintsSpec)) sexpPrintsUptoCard

/-- THE SECOND FORM's CARD OF 'dovetaillaw03.SexpTwice'. -/
def sexpTwiceUptoCard : Claim7 := { stood := { row := sexpTwiceUptoRow, standIns := [], harness := (true, "2a0561b589a1c591537f48c8ccd2df1c5166056934340b9dbc9a3c9e66dc4c22"), looks := true }, kinds := [], alts := [], laidByText := true, laidKinds := [.data, .data, .data, .sentinel, .sentinel], laidTests := true, laidLooks := .later }
def SexpTwiceUptoCardSaid : Prop := Claim7.holds Tryd.pinned (.plain (OpenSpec.upto sexpTwiceSpec)) sexpTwiceUptoCard
end Rows
end Go.Proofs.YtmelajefpihaiaaDoor
