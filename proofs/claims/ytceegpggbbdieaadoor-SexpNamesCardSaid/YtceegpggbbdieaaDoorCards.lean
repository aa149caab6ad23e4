/-
  DERIVED. GIVEN WITH THE SEED: THE CARDS: each row of YtceegpggbbdieaaDoorRows.lean that lists a variable, with what it lists TIED to the program's text (the seventh form; the later family's looks); each row that meets fmt, with fmt's text TOLD by the authors' own Lean function (tested against real Go, not proved from fmt's source: count such statements apart). THE CARD IS WHAT COUNTS. Prove the row's statement (the work); the ties are given (YtceegpggbbdieaaDoorTie.lean); close each card by the builder's one call (the guide's Derived/Test/ToyasCard.lean, 'card_holds'). Laid BY PROGRAM, IN A SANDBOX (cutbox-door.mjs). By AI agents, Wed Nov 11 2026. No macro, syntax, notation, axiom, sorry.
-/
import Derived.Test.YtceegpggbbdieaaDoorRows
import GoSem.ClaimSeven
namespace Go.Proofs.YtceegpggbbdieaaDoor
namespace Rows

/-- THE TIED CARD OF 'dovetaillaw03.SexpNames'. -/
def sexpNamesCard : Claim7 := { stood := { row := sexpNamesRow, standIns := [], harness := (true, "f37f54e01b3eb216be89437f1aa81bcd7198e101a6db5b45ce69b57f3ae0116b"), looks := true }, kinds := [], alts := [], laidByText := true, laidKinds := [.data, .data, .data, .sentinel, .sentinel], laidTests := true, laidLooks := .later }
def SexpNamesCardSaid : Prop := Claim7.holds Tryd.pinned (.plain (OpenSpec.ofChange sexpNamesSpec)) sexpNamesCard

/-- THE SECOND FORM's CARD OF 'dovetaillaw03.SexpNames'. -/
def sexpNamesUptoCard : Claim7 := { stood := { row := sexpNamesUptoRow, standIns := [], harness := (true, "f37f54e01b3eb216be89437f1aa81bcd7198e101a6db5b45ce69b57f3ae0116b"), looks := true }, kinds := [], alts := [], laidByText := true, laidKinds := [.data, .data, .data, .sentinel, .sentinel], laidTests := true, laidLooks := .later }
def SexpNamesUptoCardSaid : Prop := Claim7.holds Tryd.pinned (.plain (OpenSpec.upto sexpNamesSpec)) sexpNamesUptoCard
end Rows
end Go.Proofs.YtceegpggbbdieaaDoor
