/-
  DERIVED. GIVEN WITH THE SEED: THE CARDS: each row of YtbnffodjkbjlbaaDoorRows.lean that lists a variable, with what it lists TIED to the program's text (the seventh form; the later family's looks); each row that meets fmt, with fmt's text TOLD by the authors' own Lean function (tested against real Go, not proved from fmt's source: count such statements apart). THE CARD IS WHAT COUNTS. Prove the row's statement (the work); the ties are given (YtbnffodjkbjlbaaDoorTie.lean); close each card by the builder's one call (the guide's Derived/Test/ToyasCard.lean, 'card_holds'). Laid BY PROGRAM, IN A SANDBOX (cutbox-door.mjs). By AI agents, Wed Nov 11 2026. No macro, syntax, notation, axiom, sorry.
-/
import Derived.Test.YtbnffodjkbjlbaaDoorRows
import GoSem.ClaimSeven
namespace Go.Proofs.YtbnffodjkbjlbaaDoor
namespace Rows

/-- THE TIED CARD OF 'dovetaillaw03.SexpParses'. -/
def sexpParsesCard : Claim7 := { stood := { row := sexpParsesRow, standIns := [], harness := (true, "a288abf421ddd6c592dbdac5aa653bdfcb8c9f94aaff0dc7077959660b0a0ca2"), looks := true }, kinds := [], alts := [], laidByText := true, laidKinds := [.data, .data, .data, .sentinel, .sentinel], laidTests := true, laidLooks := .later }
def SexpParsesCardSaid : Prop := Claim7.holds Tryd.pinned (.plain (OpenSpec.ofChange sexpParsesSpec)) sexpParsesCard

/-- THE SECOND FORM's CARD OF 'dovetaillaw03.SexpParses'. -/
def sexpParsesUptoCard : Claim7 := { stood := { row := sexpParsesUptoRow, standIns := [], harness := (true, "a288abf421ddd6c592dbdac5aa653bdfcb8c9f94aaff0dc7077959660b0a0ca2"), looks := true }, kinds := [], alts := [], laidByText := true, laidKinds := [.data, .data, .data, .sentinel, .sentinel], laidTests := true, laidLooks := .later }
def SexpParsesUptoCardSaid : Prop := Claim7.holds Tryd.pinned (.plain (OpenSpec.upto sexpParsesSpec)) sexpParsesUptoCard
end Rows
end Go.Proofs.YtbnffodjkbjlbaaDoor
