/-
  DERIVED. GIVEN WITH THE SEED: THE CARDS: each row of YtkdailfadljpkaaDoorRows.lean that lists a variable, with what it lists TIED to the program's text (the seventh form; the later family's looks); each row that meets fmt, with fmt's text TOLD by the authors' own Lean function (tested against real Go, not proved from fmt's source: count such statements apart). THE CARD IS WHAT COUNTS. Prove the row's statement (the work); the ties are given (YtkdailfadljpkaaDoorTie.lean); close each card by the builder's one call (the guide's Derived/Test/ToyasCard.lean, 'card_holds'). Laid BY PROGRAM, IN A SANDBOX (cutbox-door.mjs). By AI agents, Wed Nov 11 2026. No macro, syntax, notation, axiom, sorry.
-/
import Derived.Test.YtkdailfadljpkaaDoorRows
import GoSem.ClaimSeven
namespace Go.Proofs.YtkdailfadljpkaaDoor
namespace Rows

/-- THE TIED CARD OF 'dovetaillaw12.ExprNames'. -/
def exprNamesCard : Claim7 := { stood := { row := exprNamesRow, standIns := [], harness := (true, "30225005c900590b35293f86c6d7bd836a9ff2e7b1f2c7ff39379f2e46bc11b7"), looks := true }, kinds := [], alts := [], laidByText := true, laidKinds := [.data, .data, .data, .data, .sentinel, .sentinel, .pinned, .pinned], laidTests := true, laidLooks := .later }
def ExprNamesCardSaid : Prop := Claim7.holds Tryd.pinned (.plain (OpenSpec.ofChange exprNamesSpec)) exprNamesCard

/-- THE SECOND FORM's CARD OF 'dovetaillaw12.ExprNames'. -/
def exprNamesUptoCard : Claim7 := { stood := { row := exprNamesUptoRow, standIns := [], harness := (true, "30225005c900590b35293f86c6d7bd836a9ff2e7b1f2c7ff39379f2e46bc11b7"), looks := true }, kinds := [], alts := [], laidByText := true, laidKinds := [.data, .data, .data, .data, .sentinel, .sentinel, .pinned, .pinned], laidTests := true, laidLooks := .later }
def ExprNamesUptoCardSaid : Prop := Claim7.holds Tryd.pinned (.plain (OpenSpec.upto exprNamesSpec)) exprNamesUptoCard
end Rows
end Go.Proofs.YtkdailfadljpkaaDoor
