/-
  DERIVED. GIVEN WITH THE SEED: THE CARDS: each row of YtjcpllbpkdfakaaGreatDoorRows.lean that lists a variable, with what it lists TIED to the program's text (the seventh form; the later family's looks); each row that meets fmt, with fmt's text TOLD by the authors' own Lean function (tested against real Go, not proved from fmt's source: count such statements apart). THE CARD IS WHAT COUNTS. Prove the row's statement (the work); the ties are given (YtjcpllbpkdfakaaGreatDoorTie.lean); close each card by the builder's one call (the guide's Derived/Test/ToyasCard.lean, 'card_holds'). Laid BY PROGRAM, IN A SANDBOX (cutbox-door.mjs). By AI agents, Wed Nov 11 2026. No macro, syntax, notation, axiom, sorry.
-/
import Derived.Test.YtjcpllbpkdfakaaGreatDoorRows
import GoSem.ClaimSeven
namespace Go.Proofs.YtjcpllbpkdfakaaGreatDoor
namespace Rows

/-- THE TIED CARD OF 'dovetaillaw11.CalcNames'. -/
def calcNamesCard : Claim7 := { stood := { row := calcNamesRow, standIns := [], harness := (true, "e4397f2a9bdf12a93b4aab666694ba88a112a9a89f1ba2c07e02af29007542ba"), looks := true }, kinds := [], alts := [], laidByText := true, laidKinds := [.sentinel, .sentinel, .data, .data, .data, .data, .listed, .pinned, .data], laidTests := true, laidLooks := .later }
def CalcNamesCardSaid : Prop := Claim7.holds Tryz.pinned (.plain (OpenSpec.ofChange calcNamesSpec)) calcNamesCard

/-- THE TIED CARD OF 'dovetaillaw14.MatchNames'. -/
def matchNamesCard : Claim7 := { stood := { row := matchNamesRow, standIns := [], harness := (true, "e4397f2a9bdf12a93b4aab666694ba88a112a9a89f1ba2c07e02af29007542ba"), looks := true }, kinds := [], alts := [], laidByText := true, laidKinds := [.sentinel, .sentinel, .data, .data, .data, .data, .listed, .pinned, .data, .pinned], laidTests := true, laidLooks := .later }
def MatchNamesCardSaid : Prop := Claim7.holds Tryz.pinned (.plain (OpenSpec.ofChange matchNamesSpec)) matchNamesCard

/-- THE SECOND FORM's CARD OF 'dovetaillaw11.CalcNames'. -/
def calcNamesUptoCard : Claim7 := { stood := { row := calcNamesUptoRow, standIns := [], harness := (true, "e4397f2a9bdf12a93b4aab666694ba88a112a9a89f1ba2c07e02af29007542ba"), looks := true }, kinds := [], alts := [], laidByText := true, laidKinds := [.sentinel, .sentinel, .data, .data, .data, .data, .listed, .pinned, .data], laidTests := true, laidLooks := .later }
def CalcNamesUptoCardSaid : Prop := Claim7.holds Tryz.pinned (.plain (OpenSpec.upto calcNamesSpec)) calcNamesUptoCard

/-- THE SECOND FORM's CARD OF 'dovetaillaw14.MatchNames'. -/
def matchNamesUptoCard : Claim7 := { stood := { row := matchNamesUptoRow, standIns := [], harness := (true, "e4397f2a9bdf12a93b4aab666694ba88a112a9a89f1ba2c07e02af29007542ba"), looks := true }, kinds := [], alts := [], laidByText := true, laidKinds := [.sentinel, .sentinel, .data, .data, .data, .data, .listed, .pinned, .data, .pinned], laidTests := true, laidLooks := .later }
def MatchNamesUptoCardSaid : Prop := Claim7.holds Tryz.pinned (.plain (OpenSpec.upto matchNamesSpec)) matchNamesUptoCard
end Rows
end Go.Proofs.YtjcpllbpkdfakaaGreatDoor
