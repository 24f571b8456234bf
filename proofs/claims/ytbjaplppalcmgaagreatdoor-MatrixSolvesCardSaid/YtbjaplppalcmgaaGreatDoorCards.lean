/-
  DERIVED. GIVEN WITH THE SEED: THE CARDS: each row of YtbjaplppalcmgaaGreatDoorRows.lean that lists a variable, with what it lists TIED to the program's text (the seventh form; the later family's looks); each row that meets fmt, with fmt's text TOLD by the authors' own Lean function (tested against real Go, not proved from fmt's source: count such statements apart). THE CARD IS WHAT COUNTS. Prove the row's statement (the work); the ties are given (YtbjaplppalcmgaaGreatDoorTie.lean); close each card by the builder's one call (the guide's Derived/Test/ToyasCard.lean, 'card_holds'). Laid BY PROGRAM, IN A SANDBOX (cutbox-door.mjs). By AI agents, Wed Nov 11 2026. No macro, syntax, notation, axiom, sorry.
-/
import Derived.Test.YtbjaplppalcmgaaGreatDoorRows
import GoSem.ClaimSeven
namespace Go.Proofs.YtbjaplppalcmgaaGreatDoor
namespace Rows

/-- THE TIED CARD OF 'joinlearnlaw03.MatrixSolves'. -/
def matrixSolvesCard : Claim7 := { stood := { row := matrixSolvesRow, standIns := [], harness := (true, "a78dc0775a59c3697f2ca6ea7a7de6434a7937a83cd301fe216c2385b01c7985"), looks := true }, kinds := [], alts := [], laidByText := true, laidKinds := [.data, .data, .data, .sentinel, .sentinel], laidTests := true, laidLooks := .later }
def MatrixSolvesCardSaid : Prop := Claim7.holds Tryz.pinned (.plain (OpenSpec.ofChange matrixSolvesSpec)) matrixSolvesCard

/-- THE SECOND FORM's CARD OF 'joinlearnlaw03.MatrixSolves'. -/
def matrixSolvesUptoCard : Claim7 := { stood := { row := matrixSolvesUptoRow, standIns := [], harness := (true, "a78dc0775a59c3697f2ca6ea7a7de6434a7937a83cd301fe216c2385b01c7985"), looks := true }, kinds := [], alts := [], laidByText := true, laidKinds := [.data, .data, .data, .sentinel, .sentinel], laidTests := true, laidLooks := .later }
def MatrixSolvesUptoCardSaid : Prop := Claim7.holds Tryz.pinned (.plain (OpenSpec.upto matrixSolvesSpec)) matrixSolvesUptoCard
end Rows
end Go.Proofs.YtbjaplppalcmgaaGreatDoor
