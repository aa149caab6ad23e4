/-
  DERIVED. GIVEN WITH THE SEED: THE CARDS: each row of YtnkingoidodnlaaGreatDoorRows.lean that lists a variable, with what it lists TIED to the program's text (the seventh form; the later family's looks); each row that meets fmt, with fmt's text TOLD by the authors' own Lean function (tested against real Go, not proved from fmt's source: count such statements apart). THE CARD IS WHAT COUNTS. Prove the row's statement (the work); the ties are given (YtnkingoidodnlaaGreatDoorTie.lean); close each card by the builder's one call (the guide's Derived/Test/ToyasCard.lean, 'card_holds'). Laid BY PROGRAM, IN A SANDBOX (cutbox-door.mjs). By AI agents, Wed Nov 11 2026. No macro, syntax, notation, axiom, sorry.
-/
import Derived.Test.YtnkingoidodnlaaGreatDoorRows
import GoSem.ClaimSeven
namespace Go.Proofs.YtnkingoidodnlaaGreatDoor
namespace Rows

/-- THE TIED CARD OF 'dovetaillaw04.IsadlNames'. -/
def isadlNamesCard : Claim7 := { stood := { row := isadlNamesRow, standIns := [], harness := (true, "951352ee04b38fbbce5a51d0087149cae8546784da7f504b7ee4ba7bd30ed591"), looks := true }, kinds := [], alts := [], laidByText := true, laidKinds := [.data, .data, .data, .data, .sentinel, .sentinel, .listed, .data, .pinned], laidTests := true, laidLooks := .later }
def IsadlNamesCardSaid : Prop := Claim7.holds Tryz.pinned (.plain (OpenSpec.ofChange isadlNamesSpec)) isadlNamesCard

/-- THE TIED CARD OF 'dovetaillaw04.IsadlFirst'. -/
def isadlFirstCard : Claim7 := { stood := { row := isadlFirstRow, standIns := [], harness := (true, "951352ee04b38fbbce5a51d0087149cae8546784da7f504b7ee4ba7bd30ed591"), looks := true }, kinds := [], alts := [], laidByText := true, laidKinds := [.data, .data, .data, .data, .sentinel, .sentinel, .listed, .data, .pinned], laidTests := true, laidLooks := .later }
def IsadlFirstCardSaid : Prop := Claim7.holds Tryz.pinned (.plain (OpenSpec.ofChange isadlFirstSpec)) isadlFirstCard

/-- THE TIED CARD OF 'dovetaillaw04.IsadlPrints'. -/
def isadlPrintsCard : Claim7 := { stood := { row := isadlPrintsRow, standIns := [], harness := (true, "951352ee04b38fbbce5a51d0087149cae8546784da7f504b7ee4ba7bd30ed591"), looks := true }, kinds := [], alts := [], laidByText := true, laidKinds := [.data, .data, .data, .data, .sentinel, .sentinel, .listed, .data, .pinned], laidTests := true, laidLooks := .later }
def IsadlPrintsCardSaid : Prop := Claim7.holds Tryz.pinned (.plain (OpenSpec.ofChange isadlPrintsSpec)) isadlPrintsCard

/-- THE SECOND FORM's CARD OF 'dovetaillaw04.IsadlNames'. -/
def isadlNamesUptoCard : Claim7 := { stood := { row := isadlNamesUptoRow, standIns := [], harness := (true, "951352ee04b38fbbce5a51d0087149cae8546784da7f504b7ee4ba7bd30ed591"), looks := true }, kinds := [], alts := [], laidByText := true, laidKinds := [.data, .data, .data, .data, .sentinel, .sentinel, .listed, .data, .pinned], laidTests := true, laidLooks := .later }
def IsadlNamesUptoCardSaid : Prop := Claim7.holds Tryz.pinned (.plain (OpenSpec.upto isadlNamesSpec)) isadlNamesUptoCard

/-- THE SECOND FORM's CARD OF 'dovetaillaw04.IsadlFirst'. -/
def isadlFirstUptoCard : Claim7 := { stood := { row := isadlFirstUptoRow, standIns := [], harness := (true, "951352ee04b38fbbce5a51d0087149cae8546784da7f504b7ee4ba7bd30ed591"), looks := true }, kinds := [], alts := [], laidByText := true, laidKinds := [.data, .data, .data, .data, .sentinel, .sentinel, .listed, .data, .pinned], laidTests := true, laidLooks := .later }
def IsadlFirstUptoCardSaid : Prop := Claim7.holds Tryz.pinned (.plain (OpenSpec.upto isadlFirstSpec)) isadlFirstUptoCard

/-- THE SECOND FORM's CARD OF 'dovetaillaw04.IsadlPrints'. -/
def isadlPrintsUptoCard : Claim7 := { stood := { row := isadlPrintsUptoRow, standIns := [], harness := (true, "951352ee04b38fbbce5a51d0087149cae8546784da7f504b7ee4ba7bd30ed591"), looks := true }, kinds := [], alts := [], laidByText := true, laidKinds := [.data, .data, .data, .data, .sentinel, .sentinel, .listed, .data, .pinned], laidTests := true, laidLooks := .later }
def IsadlPrintsUptoCardSaid : Prop := Claim7.holds Tryz.pinned (.plain (OpenSpec.upto isadlPrintsSpec)) isadlPrintsUptoCard
end Rows
end Go.Proofs.YtnkingoidodnlaaGreatDoor
