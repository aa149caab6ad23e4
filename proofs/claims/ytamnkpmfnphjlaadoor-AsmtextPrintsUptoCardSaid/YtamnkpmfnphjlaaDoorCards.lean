/-
  DERIVED. GIVEN WITH THE SEED: THE CARDS: each row of YtamnkpmfnphjlaaDoorRows.lean that lists a variable, with what it lists TIED to the program's text (the seventh form; the later family's looks); each row that meets fmt, with fmt's text TOLD by the authors' own Lean function (tested against real Go, not proved from fmt's source: count such statements apart). THE CARD IS WHAT COUNTS. Prove the row's statement (the work); the ties are given (YtamnkpmfnphjlaaDoorTie.lean); close each card by the builder's one call (the guide's Derived/Test/ToyasCard.lean, 'card_holds'). Laid BY PROGRAM, IN A SANDBOX (cutbox-door.mjs). By AI agents, Wed Nov 11 2026. No macro, syntax, notation, axiom, sorry.
-/
import Derived.Test.YtamnkpmfnphjlaaDoorRows
import GoSem.ClaimSeven
namespace Go.Proofs.YtamnkpmfnphjlaaDoor
namespace Rows

/-- THE TIED CARD OF 'dovetaillaw13.AsmtextNames'. -/
def asmtextNamesCard : Claim7 := { stood := { row := asmtextNamesRow, standIns := [], harness := (true, "91c2e169ad24d819a95d0b7a0e0cf5e4cfbbd06a21ef2cc4b71b57e26eff18d5"), looks := false }, kinds := [], alts := [], laidByText := true, laidKinds := [.data, .pinned], laidTests := true, laidLooks := .later }
def AsmtextNamesCardSaid : Prop := Claim7.holds Tryd.pinned (.plain (OpenSpec.ofChange asmtextNamesSpec)) asmtextNamesCard

/-- THE TIED CARD OF 'dovetaillaw13.AsmtextParses'. -/
def asmtextParsesCard : Claim7 := { stood := { row := asmtextParsesRow, standIns := [], harness := (true, "91c2e169ad24d819a95d0b7a0e0cf5e4cfbbd06a21ef2cc4b71b57e26eff18d5"), looks := false }, kinds := [], alts := [], laidByText := true, laidKinds := [.data, .pinned], laidTests := true, laidLooks := .later }
def AsmtextParsesCardSaid : Prop := Claim7.holds Tryd.pinned (.plain (OpenSpec.ofChange asmtextParsesSpec)) asmtextParsesCard

/-- THE TIED CARD OF 'dovetaillaw13.AsmtextWords'. -/
def asmtextWordsCard : Claim7 := { stood := { row := asmtextWordsRow, standIns := [], harness := (true, "91c2e169ad24d819a95d0b7a0e0cf5e4cfbbd06a21ef2cc4b71b57e26eff18d5"), looks := false }, kinds := [], alts := [], laidByText := true, laidKinds := [.data, .pinned], laidTests := true, laidLooks := .later }
def AsmtextWordsCardSaid : Prop := Claim7.holds Tryd.pinned (.plain (OpenSpec.ofChange asmtextWordsSpec)) asmtextWordsCard

/-- THE TIED CARD OF 'dovetaillaw13.AsmtextPrints'. -/
def asmtextPrintsCard : Claim7 := { stood := { row := asmtextPrintsRow, standIns := [], harness := (true, "91c2e169ad24d819a95d0b7a0e0cf5e4cfbbd06a21ef2cc4b71b57e26eff18d5"), looks := false }, kinds := [], alts := [], laidByText := true, laidKinds := [.data, .pinned], laidTests := true, laidLooks := .later }
def AsmtextPrintsCardSaid : Prop := Claim7.holds Tryd.pinned (.plain (OpenSpec.ofChange asmtextPrintsSpec)) asmtextPrintsCard

/-- THE TIED CARD OF 'dovetaillaw13.AsmtextTwice'. -/
def asmtextTwiceCard : Claim7 := { stood := { row := asmtextTwiceRow, standIns := [], harness := (true, "91c2e169ad24d819a95d0b7a0e0cf5e4cfbbd06a21ef2cc4b71b57e26eff18d5"), looks := false }, kinds := [], alts := [], laidByText := true, laidKinds := [.data, .pinned], laidTests := true, laidLooks := .later }
def AsmtextTwiceCardSaid : Prop := Claim7.holds Tryd.pinned (.plain (OpenSpec.ofChange asmtextTwiceSpec)) asmtextTwiceCard

/-- THE SECOND FORM's CARD OF 'dovetaillaw13.AsmtextNames'. -/
def asmtextNamesUptoCard : Claim7 := { stood := { row := asmtextNamesUptoRow, standIns := [], harness := (true, "91c2e169ad24d819a95d0b7a0e0cf5e4cfbbd06a21ef2cc4b71b57e26eff18d5"), looks := false }, kinds := [], alts := [], laidByText := true, laidKinds := [.data, .pinned], laidTests := true, laidLooks := .later }
def AsmtextNamesUptoCardSaid : Prop := Claim7.holds Tryd.pinned (.plain (OpenSpec.upto asmtextNamesSpec)) asmtextNamesUptoCard

/-- THE SECOND FORM's CARD OF 'dovetaillaw13.AsmtextParses'. -/
def asmtextParsesUptoCard : Claim7 := { stood := { row := asmtextParsesUptoRow, standIns := [], harness := (true, "91c2e169ad24d819a95d0b7a0e0cf5e4cfbbd06a21ef2cc4b71b57e26eff18d5"), looks := false }, kinds := [], alts := [], laidByText := true, laidKinds := [.data, .pinned], laidTests := true, laidLooks := .later }
def AsmtextParsesUptoCardSaid : Prop := Claim7.holds Tryd.pinned (.plain (OpenSpec.upto asmtextParsesSpec)) asmtextParsesUptoCard

/-- THE SECOND FORM's CARD OF 'dovetaillaw13.AsmtextWords'. -/
def asmtextWordsUptoCard : Claim7 := { stood := { row := asmtextWordsUptoRow, standIns := [], harness := (true, "91c2e169ad24d819a95d0b7a0e0cf5e4cfbbd06a21ef2cc4b71b57e26eff18d5"), looks := false }, kinds := [], alts := [], laidByText := true, laidKinds := [.data, .pinned], laidTests := true, laidLooks := .later }
def AsmtextWordsUptoCardSaid : Prop := Claim7.holds Tryd.pinned (.plain (OpenSpec.upto asmtextWordsSpec)) asmtextWordsUptoCard

/-- THE SECOND FORM's CARD OF 'dovetaillaw13.AsmtextPrints'. -/
def asmtextPrintsUptoCard : Claim7 := { stood := { row := asmtextPrintsUptoRow, standIns := [], harness := (true, "91c2e169ad24d819a95d0b7a0e0cf5e4cfbbd06a21ef2cc4b71b57e26eff18d5"), looks := false }, kinds := [], alts := [], laidByText := true, laidKinds := [.data, .pinned], laidTests := true, laidLooks := .later }
def AsmtextPrintsUptoCardSaid : Prop := Claim7.holds Tryd.pinned (.plain (OpenSpec.upto asmtextPrintsSpec)) asmtextPrintsUptoCard

/-- THE SECOND FORM's CARD OF 'dovetaillaw13.AsmtextTwice'. -/
def asmtextTwiceUptoCard : Claim7 := { stood := { row := asmtextTwiceUptoRow, standIns := [], harness := (true, "91c2e169ad24d819a95d0b7a0e0cf5e4cfbbd06a21ef2cc4b71b57e26eff18d5"), looks := false }, kinds := [], alts := [], laidByText := true, laidKinds := [.data, .pinned], laidTests := true, laidLooks := .later }
def AsmtextTwiceUptoCardSaid : Prop := Claim7.holds Tryd.pinned (.plain (OpenSpec.upto asmtextTwiceSpec)) asmtextTwiceUptoCard
end Rows
end Go.Proofs.YtamnkpmfnphjlaaDoor
