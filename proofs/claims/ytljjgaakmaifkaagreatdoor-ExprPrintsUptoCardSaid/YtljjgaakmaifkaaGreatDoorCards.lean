/-
  DERIVED. GIVEN WITH THE SEED: THE CARDS: each row of YtljjgaakmaifkaaGreatDoorRows.lean that lists a variable, with what it lists TIED to the program's text (the seventh form; the later family's looks); each row that meets fmt, with fmt's text TOLD by the authors' own Lean function (tested against real Go, not proved from fmt's source: count such statements apart). THE CARD IS WHAT COUNTS. Prove the row's statement (the work); the ties are given (YtljjgaakmaifkaaGreatDoorTie.lean); close each card by the builder's one call (the guide's Derived/Test/ToyasCard.lean, 'card_holds'). Laid BY PROGRAM, IN A SANDBOX (cutbox-door.mjs). By AI agents, Wed Nov 11 2026. No macro, syntax, notation, axiom, sorry.
-/
import Derived.Test.YtljjgaakmaifkaaGreatDoorRows
import GoSem.ClaimSeven
namespace Go.Proofs.YtljjgaakmaifkaaGreatDoor
namespace Rows

/-- THE TIED CARD OF 'dovetaillaw12.ExprPrints'. -/
def exprPrintsCard : Claim7 := { stood := { row := exprPrintsRow, standIns := [], harness := (true, "e6202ccb71d7ed6a90988409cf6f3227b6b25941e8bb16e89a8d9f19be5b7aa8"), looks := true }, kinds := [], alts := [], laidByText := true, laidKinds := [.data, .data, .data, .data, .sentinel, .sentinel, .pinned, .pinned], laidTests := true, laidLooks := .later }
def ExprPrintsCardSaid : Prop := Claim7.holds Tryz.pinned (.plain (OpenSpec.ofChange exprPrintsSpec)) exprPrintsCard

/-- THE TIED CARD OF 'dovetaillaw12.ExprEvals'. -/
def exprEvalsCard : Claim7 := { stood := { row := exprEvalsRow, standIns := [], harness := (true, "e6202ccb71d7ed6a90988409cf6f3227b6b25941e8bb16e89a8d9f19be5b7aa8"), looks := true }, kinds := [], alts := [], laidByText := true, laidKinds := [.data, .data, .data, .data, .sentinel, .sentinel, .pinned, .pinned], laidTests := true, laidLooks := .later }
def ExprEvalsCardSaid : Prop := Claim7.holds Tryz.pinned (.plain (OpenSpec.ofChange exprEvalsSpec)) exprEvalsCard

/-- THE SECOND FORM's CARD OF 'dovetaillaw12.ExprPrints'. -/
def exprPrintsUptoCard : Claim7 := { stood := { row := exprPrintsUptoRow, standIns := [], harness := (true, "e6202ccb71d7ed6a90988409cf6f3227b6b25941e8bb16e89a8d9f19be5b7aa8"), looks := true }, kinds := [], alts := [], laidByText := true, laidKinds := [.data, .data, .data, .data, .sentinel, .sentinel, .pinned, .pinned], laidTests := true, laidLooks := .later }
def ExprPrintsUptoCardSaid : Prop := Claim7.holds Tryz.pinned (.plain (OpenSpec.upto exprPrintsSpec)) exprPrintsUptoCard

/-- THE SECOND FORM's CARD OF 'dovetaillaw12.ExprEvals'. -/
def exprEvalsUptoCard : Claim7 := { stood := { row := exprEvalsUptoRow, standIns := [], harness := (true, "e6202ccb71d7ed6a90988409cf6f3227b6b25941e8bb16e89a8d9f19be5b7aa8"), looks := true }, kinds := [], alts := [], laidByText := true, laidKinds := [.data, .data, .data, .data, .sentinel, .sentinel, .pinned, .pinned], laidTests := true, laidLooks := .later }
def ExprEvalsUptoCardSaid : Prop := Claim7.holds Tryz.pinned (.plain (OpenSpec.upto exprEvalsSpec)) exprEvalsUptoCard
end Rows
end Go.Proofs.YtljjgaakmaifkaaGreatDoor
