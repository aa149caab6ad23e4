/-
  DERIVED. GIVEN WITH THE SEED: THE CARDS: each row of YtiommdibonjgjaaGreatDoorRows.lean that lists a variable, with what it lists TIED to the program's text (the seventh form; the later family's looks); each row that meets fmt, with fmt's text TOLD by the authors' own Lean function (tested against real Go, not proved from fmt's source: count such statements apart). THE CARD IS WHAT COUNTS. Prove the row's statement (the work); the ties are given (YtiommdibonjgjaaGreatDoorTie.lean); close each card by the builder's one call (the guide's Derived/Test/ToyasCard.lean, 'card_holds'). Laid BY PROGRAM, IN A SANDBOX (cutbox-door.mjs). By AI agents, Wed Nov 11 2026. No macro, syntax, notation, axiom, sorry.
-/
import Derived.Test.YtiommdibonjgjaaGreatDoorRows
import GoSem.ClaimSeven
namespace Go.Proofs.YtiommdibonjgjaaGreatDoor
namespace Rows

/-- THE TIED CARD OF 'dovetaillaw10.TargetsTexts'. -/
def targetsTextsCard : Claim7 := { stood := { row := targetsTextsRow, standIns := [], harness := (true, "538838a92006f47a3b62ddab7f3976eab141d01215dc5e8f2a89ed11cb84f95a"), looks := true }, kinds := [], alts := [], laidByText := true, laidKinds := [.data, .data, .data, .data, .sentinel, .sentinel, .listed, .data, .pinned], laidTests := true, laidLooks := .later }
def TargetsTextsCardSaid : Prop := Claim7.holds Tryz.pinned (.plain (OpenSpec.ofChange targetsTextsSpec)) targetsTextsCard

/-- THE TIED CARD OF 'dovetaillaw10.TargetsFinds'. -/
def targetsFindsCard : Claim7 := { stood := { row := targetsFindsRow, standIns := [], harness := (true, "538838a92006f47a3b62ddab7f3976eab141d01215dc5e8f2a89ed11cb84f95a"), looks := true }, kinds := [], alts := [], laidByText := true, laidKinds := [.data, .data, .data, .data, .sentinel, .sentinel, .listed, .data, .pinned], laidTests := true, laidLooks := .later }
def TargetsFindsCardSaid : Prop := Claim7.holds Tryz.pinned (.plain (OpenSpec.ofChange targetsFindsSpec)) targetsFindsCard

/-- THE TIED CARD OF 'dovetaillaw10.TargetsRight'. -/
def targetsRightCard : Claim7 := { stood := { row := targetsRightRow, standIns := [], harness := (true, "538838a92006f47a3b62ddab7f3976eab141d01215dc5e8f2a89ed11cb84f95a"), looks := true }, kinds := [], alts := [], laidByText := true, laidKinds := [.data, .data, .data, .data, .sentinel, .sentinel, .listed, .data, .pinned], laidTests := true, laidLooks := .later }
def TargetsRightCardSaid : Prop := Claim7.holds Tryz.pinned (.plain (OpenSpec.ofChange targetsRightSpec)) targetsRightCard

/-- THE TIED CARD OF 'dovetaillaw10.TargetsSizes'. -/
def targetsSizesCard : Claim7 := { stood := { row := targetsSizesRow, standIns := [], harness := (true, "538838a92006f47a3b62ddab7f3976eab141d01215dc5e8f2a89ed11cb84f95a"), looks := true }, kinds := [], alts := [], laidByText := true, laidKinds := [.data, .data, .data, .data, .sentinel, .sentinel, .listed, .data, .pinned], laidTests := true, laidLooks := .later }
def TargetsSizesCardSaid : Prop := Claim7.holds Tryz.pinned (.plain (OpenSpec.ofChange targetsSizesSpec)) targetsSizesCard

/-- THE TIED CARD OF 'dovetaillaw24.LoadNames'. -/
def loadNamesCard : Claim7 := { stood := { row := loadNamesRow, standIns := [], harness := (true, "538838a92006f47a3b62ddab7f3976eab141d01215dc5e8f2a89ed11cb84f95a"), looks := true }, kinds := [], alts := [], laidByText := true, laidKinds := [.data, .data, .data, .data, .sentinel, .sentinel, .listed, .data, .pinned], laidTests := true, laidLooks := .later }
def LoadNamesCardSaid : Prop := Claim7.holds Tryz.pinned (.plain (OpenSpec.ofChange loadNamesSpec)) loadNamesCard

/-- THE TIED CARD OF 'dovetaillaw21.PlaceNames'. -/
def placeNamesCard : Claim7 := { stood := { row := placeNamesRow, standIns := [], harness := (true, "538838a92006f47a3b62ddab7f3976eab141d01215dc5e8f2a89ed11cb84f95a"), looks := true }, kinds := [], alts := [], laidByText := true, laidKinds := [.data, .data, .data, .data, .sentinel, .sentinel, .listed, .data, .pinned], laidTests := true, laidLooks := .later }
def PlaceNamesCardSaid : Prop := Claim7.holds Tryz.pinned (.plain (OpenSpec.ofChange placeNamesSpec)) placeNamesCard

/-- THE SECOND FORM's CARD OF 'dovetaillaw10.TargetsTexts'. -/
def targetsTextsUptoCard : Claim7 := { stood := { row := targetsTextsUptoRow, standIns := [], harness := (true, "538838a92006f47a3b62ddab7f3976eab141d01215dc5e8f2a89ed11cb84f95a"), looks := true }, kinds := [], alts := [], laidByText := true, laidKinds := [.data, .data, .data, .data, .sentinel, .sentinel, .listed, .data, .pinned], laidTests := true, laidLooks := .later }
def TargetsTextsUptoCardSaid : Prop := Claim7.holds Tryz.pinned (.plain (OpenSpec.upto targetsTextsSpec)) targetsTextsUptoCard

/-- THE SECOND FORM's CARD OF 'dovetaillaw10.TargetsFinds'. -/
def targetsFindsUptoCard : Claim7 := { stood := { row := targetsFindsUptoRow, standIns := [], harness := (true, "538838a92006f47a3b62ddab7f3976eab141d01215dc5e8f2a89ed11cb84f95a"), looks := true }, kinds := [], alts := [], laidByText := true, laidKinds := [.data, .data, .data, .data, .sentinel, .sentinel, .listed, .data, .pinned], laidTests := true, laidLooks := .later }
def TargetsFindsUptoCardSaid : Prop := Claim7.holds Tryz.pinned (.plain (OpenSpec.upto targetsFindsSpec)) targetsFindsUptoCard

/-- THE SECOND FORM's CARD OF 'dovetaillaw10.TargetsRight'. -/
def targetsRightUptoCard : Claim7 := { stood := { row := targetsRightUptoRow, standIns := [], harness := (true, "538838a92006f47a3b62ddab7f3976eab141d01215dc5e8f2a89ed11cb84f95a"), looks := true }, kinds := [], alts := [], laidByText := true, laidKinds := [.data, .data, .data, .data, .sentinel, .sentinel, .listed, .data, .pinned], laidTests := true, laidLooks := .later }
def TargetsRightUptoCardSaid : Prop := Claim7.holds Tryz.pinned (.plain (OpenSpec.upto targetsRightSpec)) targetsRightUptoCard

/-- THE SECOND FORM's CARD OF 'dovetaillaw10.TargetsSizes'. -/
def targetsSizesUptoCard : Claim7 := { stood := { row := targetsSizesUptoRow, standIns := [], harness := (true, "538838a92006f47a3b62ddab7f3976eab141d01215dc5e8f2a89ed11cb84f95a"), looks := true }, kinds := [], alts := [], laidByText := true, laidKinds := [.data, .data, .data, .data, .sentinel, .sentinel, .listed, .data, .pinned], laidTests := true, laidLooks := .later }
def TargetsSizesUptoCardSaid : Prop := Claim7.holds Tryz.pinned (.plain (OpenSpec.upto targetsSizesSpec)) targetsSizesUptoCard

/-- THE SECOND FORM's CARD OF 'dovetaillaw24.LoadNames'. -/
def loadNamesUptoCard : Claim7 := { stood := { row := loadNamesUptoRow, standIns := [], harness := (true, "538838a92006f47a3b62ddab7f3976eab141d01215dc5e8f2a89ed11cb84f95a"), looks := true }, kinds := [], alts := [], laidByText := true, laidKinds := [.data, .data, .data, .data, .sentinel, .sentinel, .listed, .data, .pinned], laidTests := true, laidLooks := .later }
def LoadNamesUptoCardSaid : Prop := Claim7.holds Tryz.pinned (.plain (OpenSpec.upto loadNamesSpec)) loadNamesUptoCard

/-- THE SECOND FORM's CARD OF 'dovetaillaw21.PlaceNames'. -/
def placeNamesUptoCard : Claim7 := { stood := { row := placeNamesUptoRow, standIns := [], harness := (true, "538838a92006f47a3b62ddab7f3976eab141d01215dc5e8f2a89ed11cb84f95a"), looks := true }, kinds := [], alts := [], laidByText := true, laidKinds := [.data, .data, .data, .data, .sentinel, .sentinel, .listed, .data, .pinned], laidTests := true, laidLooks := .later }
def PlaceNamesUptoCardSaid : Prop := Claim7.holds Tryz.pinned (.plain (OpenSpec.upto placeNamesSpec)) placeNamesUptoCard
end Rows
end Go.Proofs.YtiommdibonjgjaaGreatDoor
