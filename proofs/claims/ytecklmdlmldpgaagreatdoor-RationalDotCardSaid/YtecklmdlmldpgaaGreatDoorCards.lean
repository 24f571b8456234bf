/-
  DERIVED. GIVEN WITH THE SEED: THE CARDS: each row of YtecklmdlmldpgaaGreatDoorRows.lean that lists a variable, with what it lists TIED to the program's text (the seventh form; the later family's looks); each row that meets fmt, with fmt's text TOLD by the authors' own Lean function (tested against real Go, not proved from fmt's source: count such statements apart). THE CARD IS WHAT COUNTS. Prove the row's statement (the work); the ties are given (YtecklmdlmldpgaaGreatDoorTie.lean); close each card by the builder's one call (the guide's Derived/Test/ToyasCard.lean, 'card_holds'). Laid BY PROGRAM, IN A SANDBOX (cutbox-door.mjs). By AI agents, Wed Nov 11 2026. No macro, syntax, notation, axiom, sorry.
-/
import Derived.Test.YtecklmdlmldpgaaGreatDoorRows
import GoSem.ClaimSeven
namespace Go.Proofs.YtecklmdlmldpgaaGreatDoor
namespace Rows

/-- THE TIED CARD OF 'joinlearnlaw05.SchemaValues'. -/
def schemaValuesCard : Claim7 := { stood := { row := schemaValuesRow, standIns := [], harness := (true, "f1620d19e8f0bc2a98d2c2b09be556587c6121d73a1599617aee01be257f6510"), looks := true }, kinds := [], alts := [], laidByText := true, laidKinds := [.data, .data, .data, .sentinel, .sentinel], laidTests := true, laidLooks := .later }
def SchemaValuesCardSaid : Prop := Claim7.holds Tryz.pinned (.plain (OpenSpec.ofChange schemaValuesSpec)) schemaValuesCard

/-- THE TIED CARD OF 'joinlearnlaw05.SchemaOrder'. -/
def schemaOrderCard : Claim7 := { stood := { row := schemaOrderRow, standIns := [], harness := (true, "f1620d19e8f0bc2a98d2c2b09be556587c6121d73a1599617aee01be257f6510"), looks := true }, kinds := [], alts := [], laidByText := true, laidKinds := [.data, .data, .data, .sentinel, .sentinel], laidTests := true, laidLooks := .later }
def SchemaOrderCardSaid : Prop := Claim7.holds Tryz.pinned (.plain (OpenSpec.ofChange schemaOrderSpec)) schemaOrderCard

/-- THE TIED CARD OF 'joinlearnlaw05.SchemaUses'. -/
def schemaUsesCard : Claim7 := { stood := { row := schemaUsesRow, standIns := [], harness := (true, "f1620d19e8f0bc2a98d2c2b09be556587c6121d73a1599617aee01be257f6510"), looks := true }, kinds := [], alts := [], laidByText := true, laidKinds := [.data, .data, .data, .sentinel, .sentinel], laidTests := true, laidLooks := .later }
def SchemaUsesCardSaid : Prop := Claim7.holds Tryz.pinned (.plain (OpenSpec.ofChange schemaUsesSpec)) schemaUsesCard

/-- THE TIED CARD OF 'joinlearnlaw05.SchemaLimits'. -/
def schemaLimitsCard : Claim7 := { stood := { row := schemaLimitsRow, standIns := [], harness := (true, "f1620d19e8f0bc2a98d2c2b09be556587c6121d73a1599617aee01be257f6510"), looks := true }, kinds := [], alts := [], laidByText := true, laidKinds := [.data, .data, .data, .sentinel, .sentinel], laidTests := true, laidLooks := .later }
def SchemaLimitsCardSaid : Prop := Claim7.holds Tryz.pinned (.plain (OpenSpec.ofChange schemaLimitsSpec)) schemaLimitsCard

/-- THE TIED CARD OF 'joinlearnlaw02.RationalParts'. -/
def rationalPartsCard : Claim7 := { stood := { row := rationalPartsRow, standIns := [], harness := (true, "f1620d19e8f0bc2a98d2c2b09be556587c6121d73a1599617aee01be257f6510"), looks := true }, kinds := [], alts := [], laidByText := true, laidKinds := [.data, .data, .data, .sentinel, .sentinel], laidTests := true, laidLooks := .later }
def RationalPartsCardSaid : Prop := Claim7.holds Tryz.pinned (.plain (OpenSpec.ofChange rationalPartsSpec)) rationalPartsCard

/-- THE TIED CARD OF 'joinlearnlaw02.RationalFloors'. -/
def rationalFloorsCard : Claim7 := { stood := { row := rationalFloorsRow, standIns := [], harness := (true, "f1620d19e8f0bc2a98d2c2b09be556587c6121d73a1599617aee01be257f6510"), looks := true }, kinds := [], alts := [], laidByText := true, laidKinds := [.data, .data, .data, .sentinel, .sentinel], laidTests := true, laidLooks := .later }
def RationalFloorsCardSaid : Prop := Claim7.holds Tryz.pinned (.plain (OpenSpec.ofChange rationalFloorsSpec)) rationalFloorsCard

/-- THE TIED CARD OF 'joinlearnlaw02.RationalField'. -/
def rationalFieldCard : Claim7 := { stood := { row := rationalFieldRow, standIns := [], harness := (true, "f1620d19e8f0bc2a98d2c2b09be556587c6121d73a1599617aee01be257f6510"), looks := true }, kinds := [], alts := [], laidByText := true, laidKinds := [.data, .data, .data, .sentinel, .sentinel], laidTests := true, laidLooks := .later }
def RationalFieldCardSaid : Prop := Claim7.holds Tryz.pinned (.plain (OpenSpec.ofChange rationalFieldSpec)) rationalFieldCard

/-- THE TIED CARD OF 'joinlearnlaw02.RationalOrder'. -/
def rationalOrderCard : Claim7 := { stood := { row := rationalOrderRow, standIns := [], harness := (true, "f1620d19e8f0bc2a98d2c2b09be556587c6121d73a1599617aee01be257f6510"), looks := true }, kinds := [], alts := [], laidByText := true, laidKinds := [.data, .data, .data, .sentinel, .sentinel], laidTests := true, laidLooks := .later }
def RationalOrderCardSaid : Prop := Claim7.holds Tryz.pinned (.plain (OpenSpec.ofChange rationalOrderSpec)) rationalOrderCard

/-- THE TIED CARD OF 'joinlearnlaw02.RationalTurns'. -/
def rationalTurnsCard : Claim7 := { stood := { row := rationalTurnsRow, standIns := [], harness := (true, "f1620d19e8f0bc2a98d2c2b09be556587c6121d73a1599617aee01be257f6510"), looks := true }, kinds := [], alts := [], laidByText := true, laidKinds := [.data, .data, .data, .sentinel, .sentinel], laidTests := true, laidLooks := .later }
def RationalTurnsCardSaid : Prop := Claim7.holds Tryz.pinned (.plain (OpenSpec.ofChange rationalTurnsSpec)) rationalTurnsCard

/-- THE TIED CARD OF 'joinlearnlaw02.RationalExact'. -/
def rationalExactCard : Claim7 := { stood := { row := rationalExactRow, standIns := [], harness := (true, "f1620d19e8f0bc2a98d2c2b09be556587c6121d73a1599617aee01be257f6510"), looks := true }, kinds := [], alts := [], laidByText := true, laidKinds := [.data, .data, .data, .sentinel, .sentinel], laidTests := true, laidLooks := .later }
def RationalExactCardSaid : Prop := Claim7.holds Tryz.pinned (.plain (OpenSpec.ofChange rationalExactSpec)) rationalExactCard

/-- THE TIED CARD OF 'joinlearnlaw02.RationalSums'. -/
def rationalSumsCard : Claim7 := { stood := { row := rationalSumsRow, standIns := [], harness := (true, "f1620d19e8f0bc2a98d2c2b09be556587c6121d73a1599617aee01be257f6510"), looks := true }, kinds := [], alts := [], laidByText := true, laidKinds := [.data, .data, .data, .sentinel, .sentinel], laidTests := true, laidLooks := .later }
def RationalSumsCardSaid : Prop := Claim7.holds Tryz.pinned (.plain (OpenSpec.ofChange rationalSumsSpec)) rationalSumsCard

/-- THE TIED CARD OF 'joinlearnlaw02.RationalDot'. -/
def rationalDotCard : Claim7 := { stood := { row := rationalDotRow, standIns := [], harness := (true, "f1620d19e8f0bc2a98d2c2b09be556587c6121d73a1599617aee01be257f6510"), looks := true }, kinds := [], alts := [], laidByText := true, laidKinds := [.data, .data, .data, .sentinel, .sentinel], laidTests := true, laidLooks := .later }
def RationalDotCardSaid : Prop := Claim7.holds Tryz.pinned (.plain (OpenSpec.ofChange rationalDotSpec)) rationalDotCard

/-- THE SECOND FORM's CARD OF 'joinlearnlaw05.SchemaValues'. -/
def schemaValuesUptoCard : Claim7 := { stood := { row := schemaValuesUptoRow, standIns := [], harness := (true, "f1620d19e8f0bc2a98d2c2b09be556587c6121d73a1599617aee01be257f6510"), looks := true }, kinds := [], alts := [], laidByText := true, laidKinds := [.data, .data, .data, .sentinel, .sentinel], laidTests := true, laidLooks := .later }
def SchemaValuesUptoCardSaid : Prop := Claim7.holds Tryz.pinned (.plain (OpenSpec.upto schemaValuesSpec)) schemaValuesUptoCard

/-- THE SECOND FORM's CARD OF 'joinlearnlaw05.SchemaOrder'. -/
def schemaOrderUptoCard : Claim7 := { stood := { row := schemaOrderUptoRow, standIns := [], harness := (true, "f1620d19e8f0bc2a98d2c2b09be556587c6121d73a1599617aee01be257f6510"), looks := true }, kinds := [], alts := [], laidByText := true, laidKinds := [.data, .data, .data, .sentinel, .sentinel], laidTests := true, laidLooks := .later }
def SchemaOrderUptoCardSaid : Prop := Claim7.holds Tryz.pinned (.plain (OpenSpec.upto schemaOrderSpec)) schemaOrderUptoCard

/-- THE SECOND FORM's CARD OF 'joinlearnlaw05.SchemaUses'. -/
def schemaUsesUptoCard : Claim7 := { stood := { row := schemaUsesUptoRow, standIns := [], harness := (true, "f1620d19e8f0bc2a98d2c2b09be556587c6121d73a1599617aee01be257f6510"), looks := true }, kinds := [], alts := [], laidByText := true, laidKinds := [.data, .data, .data, .sentinel, .sentinel], laidTests := true, laidLooks := .later }
def SchemaUsesUptoCardSaid : Prop := Claim7.holds Tryz.pinned (.plain (OpenSpec.upto schemaUsesSpec)) schemaUsesUptoCard

/-- THE SECOND FORM's CARD OF 'joinlearnlaw05.SchemaLimits'. -/
def schemaLimitsUptoCard : Claim7 := { stood := { row := schemaLimitsUptoRow, standIns := [], harness := (true, "f1620d19e8f0bc2a98d2c2b09be556587c6121d73a1599617aee01be257f6510"), looks := true }, kinds := [], alts := [], laidByText := true, laidKinds := [.data, .data, .data, .sentinel, .sentinel], laidTests := true, laidLooks := .later }
def SchemaLimitsUptoCardSaid : Prop := Claim7.holds Tryz.pinned (.plain (OpenSpec.upto schemaLimitsSpec)) schemaLimitsUptoCard

/-- THE SECOND FORM's CARD OF 'joinlearnlaw02.RationalParts'. -/
def rationalPartsUptoCard : Claim7 := { stood := { row := rationalPartsUptoRow, standIns := [], harness := (true, "f1620d19e8f0bc2a98d2c2b09be556587c6121d73a1599617aee01be257f6510"), looks := true }, kinds := [], alts := [], laidByText := true, laidKinds := [.data, .data, .data, .sentinel, .sentinel], laidTests := true, laidLooks := .later }
def RationalPartsUptoCardSaid : Prop := Claim7.holds Tryz.pinned (.plain (OpenSpec.upto rationalPartsSpec)) rationalPartsUptoCard

/-- THE SECOND FORM's CARD OF 'joinlearnlaw02.RationalFloors'. -/
def rationalFloorsUptoCard : Claim7 := { stood := { row := rationalFloorsUptoRow, standIns := [], harness := (true, "f1620d19e8f0bc2a98d2c2b09be556587c6121d73a1599617aee01be257f6510"), looks := true }, kinds := [], alts := [], laidByText := true, laidKinds := [.data, .data, .data, .sentinel, .sentinel], laidTests := true, laidLooks := .later }
def RationalFloorsUptoCardSaid : Prop := Claim7.holds Tryz.pinned (.plain (OpenSpec.upto rationalFloorsSpec)) rationalFloorsUptoCard

/-- THE SECOND FORM's CARD OF 'joinlearnlaw02.RationalField'. -/
def rationalFieldUptoCard : Claim7 := { stood := { row := rationalFieldUptoRow, standIns := [], harness := (true, "f1620d19e8f0bc2a98d2c2b09be556587c6121d73a1599617aee01be257f6510"), looks := true }, kinds := [], alts := [], laidByText := true, laidKinds := [.data, .data, .data, .sentinel, .sentinel], laidTests := true, laidLooks := .later }
def RationalFieldUptoCardSaid : Prop := Claim7.holds Tryz.pinned (.plain (OpenSpec.upto rationalFieldSpec)) rationalFieldUptoCard

/-- THE SECOND FORM's CARD OF 'joinlearnlaw02.RationalOrder'. -/
def rationalOrderUptoCard : Claim7 := { stood := { row := rationalOrderUptoRow, standIns := [], harness := (true, "f1620d19e8f0bc2a98d2c2b09be556587c6121d73a1599617aee01be257f6510"), looks := true }, kinds := [], alts := [], laidByText := true, laidKinds := [.data, .data, .data, .sentinel, .sentinel], laidTests := true, laidLooks := .later }
def RationalOrderUptoCardSaid : Prop := Claim7.holds Tryz.pinned (.plain (OpenSpec.upto rationalOrderSpec)) rationalOrderUptoCard

/-- THE SECOND FORM's CARD OF 'joinlearnlaw02.RationalTurns'. -/
def rationalTurnsUptoCard : Claim7 := { stood := { row := rationalTurnsUptoRow, standIns := [], harness := (true, "f1620d19e8f0bc2a98d2c2b09be556587c6121d73a1599617aee01be257f6510"), looks := true }, kinds := [], alts := [], laidByText := true, laidKinds := [.data, .data, .data, .sentinel, .sentinel], laidTests := true, laidLooks := .later }
def RationalTurnsUptoCardSaid : Prop := Claim7.holds Tryz.pinned (.plain (OpenSpec.upto rationalTurnsSpec)) rationalTurnsUptoCard

/-- THE SECOND FORM's CARD OF 'joinlearnlaw02.RationalExact'. -/
def rationalExactUptoCard : Claim7 := { stood := { row := rationalExactUptoRow, standIns := [], harness := (true, "f1620d19e8f0bc2a98d2c2b09be556587c6121d73a1599617aee01be257f6510"), looks := true }, kinds := [], alts := [], laidByText := true, laidKinds := [.data, .data, .data, .sentinel, .sentinel], laidTests := true, laidLooks := .later }
def RationalExactUptoCardSaid : Prop := Claim7.holds Tryz.pinned (.plain (OpenSpec.upto rationalExactSpec)) rationalExactUptoCard

/-- THE SECOND FORM's CARD OF 'joinlearnlaw02.RationalSums'. -/
def rationalSumsUptoCard : Claim7 := { stood := { row := rationalSumsUptoRow, standIns := [], harness := (true, "f1620d19e8f0bc2a98d2c2b09be556587c6121d73a1599617aee01be257f6510"), looks := true }, kinds := [], alts := [], laidByText := true, laidKinds := [.data, .data, .data, .sentinel, .sentinel], laidTests := true, laidLooks := .later }
def RationalSumsUptoCardSaid : Prop := Claim7.holds Tryz.pinned (.plain (OpenSpec.upto rationalSumsSpec)) rationalSumsUptoCard

/-- THE SECOND FORM's CARD OF 'joinlearnlaw02.RationalDot'. -/
def rationalDotUptoCard : Claim7 := { stood := { row := rationalDotUptoRow, standIns := [], harness := (true, "f1620d19e8f0bc2a98d2c2b09be556587c6121d73a1599617aee01be257f6510"), looks := true }, kinds := [], alts := [], laidByText := true, laidKinds := [.data, .data, .data, .sentinel, .sentinel], laidTests := true, laidLooks := .later }
def RationalDotUptoCardSaid : Prop := Claim7.holds Tryz.pinned (.plain (OpenSpec.upto rationalDotSpec)) rationalDotUptoCard
end Rows
end Go.Proofs.YtecklmdlmldpgaaGreatDoor
