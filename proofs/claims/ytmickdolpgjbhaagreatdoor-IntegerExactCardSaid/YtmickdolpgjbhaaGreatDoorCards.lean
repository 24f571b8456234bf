/-
  DERIVED. GIVEN WITH THE SEED: THE CARDS: each row of YtmickdolpgjbhaaGreatDoorRows.lean that lists a variable, with what it lists TIED to the program's text (the seventh form; the later family's looks); each row that meets fmt, with fmt's text TOLD by the authors' own Lean function (tested against real Go, not proved from fmt's source: count such statements apart). THE CARD IS WHAT COUNTS. Prove the row's statement (the work); the ties are given (YtmickdolpgjbhaaGreatDoorTie.lean); close each card by the builder's one call (the guide's Derived/Test/ToyasCard.lean, 'card_holds'). Laid BY PROGRAM, IN A SANDBOX (cutbox-door.mjs). By AI agents, Wed Nov 11 2026. No macro, syntax, notation, axiom, sorry.
-/
import Derived.Test.YtmickdolpgjbhaaGreatDoorRows
import GoSem.ClaimSeven
namespace Go.Proofs.YtmickdolpgjbhaaGreatDoor
namespace Rows

/-- THE TIED CARD OF 'joinlearnlaw01.IntegerLong'. -/
def integerLongCard : Claim7 := { stood := { row := integerLongRow, standIns := [], harness := (true, "dbba90f291e71b7667d64b0b0c28a4fe69f6dfde0654aa6818c6796de9b47b27"), looks := true }, kinds := [], alts := [], laidByText := true, laidKinds := [.data, .data, .data, .sentinel, .sentinel], laidTests := true, laidLooks := .later }
def IntegerLongCardSaid : Prop := Claim7.holds Tryz.pinned (.plain (OpenSpec.ofChange integerLongSpec)) integerLongCard

/-- THE TIED CARD OF 'joinlearnlaw01.IntegerDivides'. -/
def integerDividesCard : Claim7 := { stood := { row := integerDividesRow, standIns := [], harness := (true, "dbba90f291e71b7667d64b0b0c28a4fe69f6dfde0654aa6818c6796de9b47b27"), looks := true }, kinds := [], alts := [], laidByText := true, laidKinds := [.data, .data, .data, .sentinel, .sentinel], laidTests := true, laidLooks := .later }
def IntegerDividesCardSaid : Prop := Claim7.holds Tryz.pinned (.plain (OpenSpec.ofChange integerDividesSpec)) integerDividesCard

/-- THE TIED CARD OF 'joinlearnlaw01.IntegerExact'. -/
def integerExactCard : Claim7 := { stood := { row := integerExactRow, standIns := [], harness := (true, "dbba90f291e71b7667d64b0b0c28a4fe69f6dfde0654aa6818c6796de9b47b27"), looks := true }, kinds := [], alts := [], laidByText := true, laidKinds := [.data, .data, .data, .sentinel, .sentinel], laidTests := true, laidLooks := .later }
def IntegerExactCardSaid : Prop := Claim7.holds Tryz.pinned (.plain (OpenSpec.ofChange integerExactSpec)) integerExactCard

/-- THE SECOND FORM's CARD OF 'joinlearnlaw01.IntegerLong'. -/
def integerLongUptoCard : Claim7 := { stood := { row := integerLongUptoRow, standIns := [], harness := (true, "dbba90f291e71b7667d64b0b0c28a4fe69f6dfde0654aa6818c6796de9b47b27"), looks := true }, kinds := [], alts := [], laidByText := true, laidKinds := [.data, .data, .data, .sentinel, .sentinel], laidTests := true, laidLooks := .later }
def IntegerLongUptoCardSaid : Prop := Claim7.holds Tryz.pinned (.plain (OpenSpec.upto integerLongSpec)) integerLongUptoCard

/-- THE SECOND FORM's CARD OF 'joinlearnlaw01.IntegerDivides'. -/
def integerDividesUptoCard : Claim7 := { stood := { row := integerDividesUptoRow, standIns := [], harness := (true, "dbba90f291e71b7667d64b0b0c28a4fe69f6dfde0654aa6818c6796de9b47b27"), looks := true }, kinds := [], alts := [], laidByText := true, laidKinds := [.data, .data, .data, .sentinel, .sentinel], laidTests := true, laidLooks := .later }
def IntegerDividesUptoCardSaid : Prop := Claim7.holds Tryz.pinned (.plain (OpenSpec.upto integerDividesSpec)) integerDividesUptoCard

/-- THE SECOND FORM's CARD OF 'joinlearnlaw01.IntegerExact'. -/
def integerExactUptoCard : Claim7 := { stood := { row := integerExactUptoRow, standIns := [], harness := (true, "dbba90f291e71b7667d64b0b0c28a4fe69f6dfde0654aa6818c6796de9b47b27"), looks := true }, kinds := [], alts := [], laidByText := true, laidKinds := [.data, .data, .data, .sentinel, .sentinel], laidTests := true, laidLooks := .later }
def IntegerExactUptoCardSaid : Prop := Claim7.holds Tryz.pinned (.plain (OpenSpec.upto integerExactSpec)) integerExactUptoCard
end Rows
end Go.Proofs.YtmickdolpgjbhaaGreatDoor
