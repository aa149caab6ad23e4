/-
  DERIVED. GIVEN WITH THE SEED: THE CARDS: each row of YthcnipopdbgpdaaGreatDoorRows.lean that lists a variable, with what it lists TIED to the program's text (the seventh form; the later family's looks); each row that meets fmt, with fmt's text TOLD by the authors' own Lean function (tested against real Go, not proved from fmt's source: count such statements apart). THE CARD IS WHAT COUNTS. Prove the row's statement (the work); the ties are given (YthcnipopdbgpdaaGreatDoorTie.lean); close each card by the builder's one call (the guide's Derived/Test/ToyasCard.lean, 'card_holds'). Laid BY PROGRAM, IN A SANDBOX (cutbox-door.mjs). By AI agents, Wed Nov 11 2026. No macro, syntax, notation, axiom, sorry.
-/
import Derived.Test.YthcnipopdbgpdaaGreatDoorRows
import GoSem.ClaimSeven
namespace Go.Proofs.YthcnipopdbgpdaaGreatDoor
namespace Rows

/-- THE TIED CARD OF 'dovetaillaw10.TargetsRight'. -/
def targetsRightCard : Claim7 := { stood := { row := targetsRightRow, standIns := [], harness := (true, "9a846014459d128685bc1bcb9b75686fb70b6664444d1c2130fb27e327dbe72a"), looks := true }, kinds := [], alts := [], laidByText := true, laidKinds := [.data, .data, .data, .data, .sentinel, .sentinel, .listed, .data, .pinned], laidTests := true, laidLooks := .later }
def TargetsRightCardSaid : Prop := Claim7.holds Tryz.pinned (.plain (OpenSpec.ofChange targetsRightSpec)) targetsRightCard

/-- THE TIED CARD OF 'dovetaillaw10.TargetsSizes'. -/
def targetsSizesCard : Claim7 := { stood := { row := targetsSizesRow, standIns := [], harness := (true, "9a846014459d128685bc1bcb9b75686fb70b6664444d1c2130fb27e327dbe72a"), looks := true }, kinds := [], alts := [], laidByText := true, laidKinds := [.data, .data, .data, .data, .sentinel, .sentinel, .listed, .data, .pinned], laidTests := true, laidLooks := .later }
def TargetsSizesCardSaid : Prop := Claim7.holds Tryz.pinned (.plain (OpenSpec.ofChange targetsSizesSpec)) targetsSizesCard

/-- THE TIED CARD OF 'dovetaillaw15.SizesNames'. -/
def sizesNamesCard : Claim7 := { stood := { row := sizesNamesRow, standIns := [], harness := (true, "9a846014459d128685bc1bcb9b75686fb70b6664444d1c2130fb27e327dbe72a"), looks := true }, kinds := [], alts := [], laidByText := true, laidKinds := [.data, .data, .data, .data, .sentinel, .sentinel, .listed, .data, .pinned], laidTests := true, laidLooks := .later }
def SizesNamesCardSaid : Prop := Claim7.holds Tryz.pinned (.plain (OpenSpec.ofChange sizesNamesSpec)) sizesNamesCard

/-- THE SECOND FORM's CARD OF 'dovetaillaw10.TargetsRight'. -/
def targetsRightUptoCard : Claim7 := { stood := { row := targetsRightUptoRow, standIns := [], harness := (true, "9a846014459d128685bc1bcb9b75686fb70b6664444d1c2130fb27e327dbe72a"), looks := true }, kinds := [], alts := [], laidByText := true, laidKinds := [.data, .data, .data, .data, .sentinel, .sentinel, .listed, .data, .pinned], laidTests := true, laidLooks := .later }
def TargetsRightUptoCardSaid : Prop := Claim7.holds Tryz.pinned (.plain (OpenSpec.upto targetsRightSpec)) targetsRightUptoCard

/-- THE SECOND FORM's CARD OF 'dovetaillaw10.TargetsSizes'. -/
def targetsSizesUptoCard : Claim7 := { stood := { row := targetsSizesUptoRow, standIns := [], harness := (true, "9a846014459d128685bc1bcb9b75686fb70b6664444d1c2130fb27e327dbe72a"), looks := true }, kinds := [], alts := [], laidByText := true, laidKinds := [.data, .data, .data, .data, .sentinel, .sentinel, .listed, .data, .pinned], laidTests := true, laidLooks := .later }
def TargetsSizesUptoCardSaid : Prop := Claim7.holds Tryz.pinned (.plain (OpenSpec.upto targetsSizesSpec)) targetsSizesUptoCard

/-- THE SECOND FORM's CARD OF 'dovetaillaw15.SizesNames'. -/
def sizesNamesUptoCard : Claim7 := { stood := { row := sizesNamesUptoRow, standIns := [], harness := (true, "9a846014459d128685bc1bcb9b75686fb70b6664444d1c2130fb27e327dbe72a"), looks := true }, kinds := [], alts := [], laidByText := true, laidKinds := [.data, .data, .data, .data, .sentinel, .sentinel, .listed, .data, .pinned], laidTests := true, laidLooks := .later }
def SizesNamesUptoCardSaid : Prop := Claim7.holds Tryz.pinned (.plain (OpenSpec.upto sizesNamesSpec)) sizesNamesUptoCard
end Rows
end Go.Proofs.YthcnipopdbgpdaaGreatDoor
