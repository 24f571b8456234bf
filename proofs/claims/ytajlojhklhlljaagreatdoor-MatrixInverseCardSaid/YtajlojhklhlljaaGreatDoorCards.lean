/-
  DERIVED. GIVEN WITH THE SEED: THE CARDS: each row of YtajlojhklhlljaaGreatDoorRows.lean that lists a variable, with what it lists TIED to the program's text (the seventh form; the later family's looks); each row that meets fmt, with fmt's text TOLD by the authors' own Lean function (tested against real Go, not proved from fmt's source: count such statements apart). THE CARD IS WHAT COUNTS. Prove the row's statement (the work); the ties are given (YtajlojhklhlljaaGreatDoorTie.lean); close each card by the builder's one call (the guide's Derived/Test/ToyasCard.lean, 'card_holds'). Laid BY PROGRAM, IN A SANDBOX (cutbox-door.mjs). By AI agents, Wed Nov 11 2026. No macro, syntax, notation, axiom, sorry.
-/
import Derived.Test.YtajlojhklhlljaaGreatDoorRows
import GoSem.ClaimSeven
namespace Go.Proofs.YtajlojhklhlljaaGreatDoor
namespace Rows

/-- THE TIED CARD OF 'joinlearnlaw03.MatrixDeterminant'. -/
def matrixDeterminantCard : Claim7 := { stood := { row := matrixDeterminantRow, standIns := [], harness := (true, "bc7f502e59e4b150678b83e28d3ee14c3a5c96d6683c1ef76b4923829e23565b"), looks := true }, kinds := [], alts := [], laidByText := true, laidKinds := [.data, .data, .data, .sentinel, .sentinel], laidTests := true, laidLooks := .later }
def MatrixDeterminantCardSaid : Prop := Claim7.holds Tryz.pinned (.plain (OpenSpec.ofChange matrixDeterminantSpec)) matrixDeterminantCard

/-- THE TIED CARD OF 'joinlearnlaw03.MatrixRank'. -/
def matrixRankCard : Claim7 := { stood := { row := matrixRankRow, standIns := [], harness := (true, "bc7f502e59e4b150678b83e28d3ee14c3a5c96d6683c1ef76b4923829e23565b"), looks := true }, kinds := [], alts := [], laidByText := true, laidKinds := [.data, .data, .data, .sentinel, .sentinel], laidTests := true, laidLooks := .later }
def MatrixRankCardSaid : Prop := Claim7.holds Tryz.pinned (.plain (OpenSpec.ofChange matrixRankSpec)) matrixRankCard

/-- THE TIED CARD OF 'joinlearnlaw03.MatrixSolves'. -/
def matrixSolvesCard : Claim7 := { stood := { row := matrixSolvesRow, standIns := [], harness := (true, "bc7f502e59e4b150678b83e28d3ee14c3a5c96d6683c1ef76b4923829e23565b"), looks := true }, kinds := [], alts := [], laidByText := true, laidKinds := [.data, .data, .data, .sentinel, .sentinel], laidTests := true, laidLooks := .later }
def MatrixSolvesCardSaid : Prop := Claim7.holds Tryz.pinned (.plain (OpenSpec.ofChange matrixSolvesSpec)) matrixSolvesCard

/-- THE TIED CARD OF 'joinlearnlaw03.MatrixLinear'. -/
def matrixLinearCard : Claim7 := { stood := { row := matrixLinearRow, standIns := [], harness := (true, "bc7f502e59e4b150678b83e28d3ee14c3a5c96d6683c1ef76b4923829e23565b"), looks := true }, kinds := [], alts := [], laidByText := true, laidKinds := [.data, .data, .data, .sentinel, .sentinel], laidTests := true, laidLooks := .later }
def MatrixLinearCardSaid : Prop := Claim7.holds Tryz.pinned (.plain (OpenSpec.ofChange matrixLinearSpec)) matrixLinearCard

/-- THE TIED CARD OF 'joinlearnlaw03.MatrixProducts'. -/
def matrixProductsCard : Claim7 := { stood := { row := matrixProductsRow, standIns := [], harness := (true, "bc7f502e59e4b150678b83e28d3ee14c3a5c96d6683c1ef76b4923829e23565b"), looks := true }, kinds := [], alts := [], laidByText := true, laidKinds := [.data, .data, .data, .sentinel, .sentinel], laidTests := true, laidLooks := .later }
def MatrixProductsCardSaid : Prop := Claim7.holds Tryz.pinned (.plain (OpenSpec.ofChange matrixProductsSpec)) matrixProductsCard

/-- THE TIED CARD OF 'joinlearnlaw03.MatrixTransposed'. -/
def matrixTransposedCard : Claim7 := { stood := { row := matrixTransposedRow, standIns := [], harness := (true, "bc7f502e59e4b150678b83e28d3ee14c3a5c96d6683c1ef76b4923829e23565b"), looks := true }, kinds := [], alts := [], laidByText := true, laidKinds := [.data, .data, .data, .sentinel, .sentinel], laidTests := true, laidLooks := .later }
def MatrixTransposedCardSaid : Prop := Claim7.holds Tryz.pinned (.plain (OpenSpec.ofChange matrixTransposedSpec)) matrixTransposedCard

/-- THE TIED CARD OF 'joinlearnlaw03.MatrixInverse'. -/
def matrixInverseCard : Claim7 := { stood := { row := matrixInverseRow, standIns := [], harness := (true, "bc7f502e59e4b150678b83e28d3ee14c3a5c96d6683c1ef76b4923829e23565b"), looks := true }, kinds := [], alts := [], laidByText := true, laidKinds := [.data, .data, .data, .sentinel, .sentinel], laidTests := true, laidLooks := .later }
def MatrixInverseCardSaid : Prop := Claim7.holds Tryz.pinned (.plain (OpenSpec.ofChange matrixInverseSpec)) matrixInverseCard

/-- THE TIED CARD OF 'joinlearnlaw04.DefiniteDecides'. -/
def definiteDecidesCard : Claim7 := { stood := { row := definiteDecidesRow, standIns := [], harness := (true, "bc7f502e59e4b150678b83e28d3ee14c3a5c96d6683c1ef76b4923829e23565b"), looks := true }, kinds := [], alts := [], laidByText := true, laidKinds := [.data, .data, .data, .sentinel, .sentinel], laidTests := true, laidLooks := .later }
def DefiniteDecidesCardSaid : Prop := Claim7.holds Tryz.pinned (.plain (OpenSpec.ofChange definiteDecidesSpec)) definiteDecidesCard

/-- THE TIED CARD OF 'joinlearnlaw04.DefiniteCongruent'. -/
def definiteCongruentCard : Claim7 := { stood := { row := definiteCongruentRow, standIns := [], harness := (true, "bc7f502e59e4b150678b83e28d3ee14c3a5c96d6683c1ef76b4923829e23565b"), looks := true }, kinds := [], alts := [], laidByText := true, laidKinds := [.data, .data, .data, .sentinel, .sentinel], laidTests := true, laidLooks := .later }
def DefiniteCongruentCardSaid : Prop := Claim7.holds Tryz.pinned (.plain (OpenSpec.ofChange definiteCongruentSpec)) definiteCongruentCard

/-- THE TIED CARD OF 'joinlearnlaw04.DefiniteSums'. -/
def definiteSumsCard : Claim7 := { stood := { row := definiteSumsRow, standIns := [], harness := (true, "bc7f502e59e4b150678b83e28d3ee14c3a5c96d6683c1ef76b4923829e23565b"), looks := true }, kinds := [], alts := [], laidByText := true, laidKinds := [.data, .data, .data, .sentinel, .sentinel], laidTests := true, laidLooks := .later }
def DefiniteSumsCardSaid : Prop := Claim7.holds Tryz.pinned (.plain (OpenSpec.ofChange definiteSumsSpec)) definiteSumsCard

/-- THE TIED CARD OF 'joinlearnlaw04.DefiniteProves'. -/
def definiteProvesCard : Claim7 := { stood := { row := definiteProvesRow, standIns := [], harness := (true, "bc7f502e59e4b150678b83e28d3ee14c3a5c96d6683c1ef76b4923829e23565b"), looks := true }, kinds := [], alts := [], laidByText := true, laidKinds := [.data, .data, .data, .sentinel, .sentinel], laidTests := true, laidLooks := .later }
def DefiniteProvesCardSaid : Prop := Claim7.holds Tryz.pinned (.plain (OpenSpec.ofChange definiteProvesSpec)) definiteProvesCard

/-- THE TIED CARD OF 'joinlearnlaw04.DefiniteExact'. -/
def definiteExactCard : Claim7 := { stood := { row := definiteExactRow, standIns := [], harness := (true, "bc7f502e59e4b150678b83e28d3ee14c3a5c96d6683c1ef76b4923829e23565b"), looks := true }, kinds := [], alts := [], laidByText := true, laidKinds := [.data, .data, .data, .sentinel, .sentinel], laidTests := true, laidLooks := .later }
def DefiniteExactCardSaid : Prop := Claim7.holds Tryz.pinned (.plain (OpenSpec.ofChange definiteExactSpec)) definiteExactCard

/-- THE SECOND FORM's CARD OF 'joinlearnlaw03.MatrixDeterminant'. -/
def matrixDeterminantUptoCard : Claim7 := { stood := { row := matrixDeterminantUptoRow, standIns := [], harness := (true, "bc7f502e59e4b150678b83e28d3ee14c3a5c96d6683c1ef76b4923829e23565b"), looks := true }, kinds := [], alts := [], laidByText := true, laidKinds := [.data, .data, .data, .sentinel, .sentinel], laidTests := true, laidLooks := .later }
def MatrixDeterminantUptoCardSaid : Prop := Claim7.holds Tryz.pinned (.plain (OpenSpec.upto matrixDeterminantSpec)) matrixDeterminantUptoCard

/-- THE SECOND FORM's CARD OF 'joinlearnlaw03.MatrixRank'. -/
def matrixRankUptoCard : Claim7 := { stood := { row := matrixRankUptoRow, standIns := [], harness := (true, "bc7f502e59e4b150678b83e28d3ee14c3a5c96d6683c1ef76b4923829e23565b"), looks := true }, kinds := [], alts := [], laidByText := true, laidKinds := [.data, .data, .data, .sentinel, .sentinel], laidTests := true, laidLooks := .later }
def MatrixRankUptoCardSaid : Prop := Claim7.holds Tryz.pinned (.plain (OpenSpec.upto matrixRankSpec)) matrixRankUptoCard

/-- THE SECOND FORM's CARD OF 'joinlearnlaw03.MatrixSolves'. -/
def matrixSolvesUptoCard : Claim7 := { stood := { row := matrixSolvesUptoRow, standIns := [], harness := (true, "bc7f502e59e4b150678b83e28d3ee14c3a5c96d6683c1ef76b4923829e23565b"), looks := true }, kinds := [], alts := [], laidByText := true, laidKinds := [.data, .data, .data, .sentinel, .sentinel], laidTests := true, laidLooks := .later }
def MatrixSolvesUptoCardSaid : Prop := Claim7.holds Tryz.pinned (.plain (OpenSpec.upto matrixSolvesSpec)) matrixSolvesUptoCard

/-- THE SECOND FORM's CARD OF 'joinlearnlaw03.MatrixLinear'. -/
def matrixLinearUptoCard : Claim7 := { stood := { row := matrixLinearUptoRow, standIns := [], harness := (true, "bc7f502e59e4b150678b83e28d3ee14c3a5c96d6683c1ef76b4923829e23565b"), looks := true }, kinds := [], alts := [], laidByText := true, laidKinds := [.data, .data, .data, .sentinel, .sentinel], laidTests := true, laidLooks := .later }
def MatrixLinearUptoCardSaid : Prop := Claim7.holds Tryz.pinned (.plain (OpenSpec.upto matrixLinearSpec)) matrixLinearUptoCard

/-- THE SECOND FORM's CARD OF 'joinlearnlaw03.MatrixProducts'. -/
def matrixProductsUptoCard : Claim7 := { stood := { row := matrixProductsUptoRow, standIns := [], harness := (true, "bc7f502e59e4b150678b83e28d3ee14c3a5c96d6683c1ef76b4923829e23565b"), looks := true }, kinds := [], alts := [], laidByText := true, laidKinds := [.data, .data, .data, .sentinel, .sentinel], laidTests := true, laidLooks := .later }
def MatrixProductsUptoCardSaid : Prop := Claim7.holds Tryz.pinned (.plain (OpenSpec.upto matrixProductsSpec)) matrixProductsUptoCard

/-- THE SECOND FORM's CARD OF 'joinlearnlaw03.MatrixTransposed'. -/
def matrixTransposedUptoCard : Claim7 := { stood := { row := matrixTransposedUptoRow, standIns := [], harness := (true, "bc7f502e59e4b150678b83e28d3ee14c3a5c96d6683c1ef76b4923829e23565b"), looks := true }, kinds := [], alts := [], laidByText := true, laidKinds := [.data, .data, .data, .sentinel, .sentinel], laidTests := true, laidLooks := .later }
def MatrixTransposedUptoCardSaid : Prop := Claim7.holds Tryz.pinned (.plain (OpenSpec.upto matrixTransposedSpec)) matrixTransposedUptoCard

/-- THE SECOND FORM's CARD OF 'joinlearnlaw03.MatrixInverse'. -/
def matrixInverseUptoCard : Claim7 := { stood := { row := matrixInverseUptoRow, standIns := [], harness := (true, "bc7f502e59e4b150678b83e28d3ee14c3a5c96d6683c1ef76b4923829e23565b"), looks := true }, kinds := [], alts := [], laidByText := true, laidKinds := [.data, .data, .data, .sentinel, .sentinel], laidTests := true, laidLooks := .later }
def MatrixInverseUptoCardSaid : Prop := Claim7.holds Tryz.pinned (.plain (OpenSpec.upto matrixInverseSpec)) matrixInverseUptoCard

/-- THE SECOND FORM's CARD OF 'joinlearnlaw04.DefiniteDecides'. -/
def definiteDecidesUptoCard : Claim7 := { stood := { row := definiteDecidesUptoRow, standIns := [], harness := (true, "bc7f502e59e4b150678b83e28d3ee14c3a5c96d6683c1ef76b4923829e23565b"), looks := true }, kinds := [], alts := [], laidByText := true, laidKinds := [.data, .data, .data, .sentinel, .sentinel], laidTests := true, laidLooks := .later }
def DefiniteDecidesUptoCardSaid : Prop := Claim7.holds Tryz.pinned (.plain (OpenSpec.upto definiteDecidesSpec)) definiteDecidesUptoCard

/-- THE SECOND FORM's CARD OF 'joinlearnlaw04.DefiniteCongruent'. -/
def definiteCongruentUptoCard : Claim7 := { stood := { row := definiteCongruentUptoRow, standIns := [], harness := (true, "bc7f502e59e4b150678b83e28d3ee14c3a5c96d6683c1ef76b4923829e23565b"), looks := true }, kinds := [], alts := [], laidByText := true, laidKinds := [.data, .data, .data, .sentinel, .sentinel], laidTests := true, laidLooks := .later }
def DefiniteCongruentUptoCardSaid : Prop := Claim7.holds Tryz.pinned (.plain (OpenSpec.upto definiteCongruentSpec)) definiteCongruentUptoCard

/-- THE SECOND FORM's CARD OF 'joinlearnlaw04.DefiniteSums'. -/
def definiteSumsUptoCard : Claim7 := { stood := { row := definiteSumsUptoRow, standIns := [], harness := (true, "bc7f502e59e4b150678b83e28d3ee14c3a5c96d6683c1ef76b4923829e23565b"), looks := true }, kinds := [], alts := [], laidByText := true, laidKinds := [.data, .data, .data, .sentinel, .sentinel], laidTests := true, laidLooks := .later }
def DefiniteSumsUptoCardSaid : Prop := Claim7.holds Tryz.pinned (.plain (OpenSpec.upto definiteSumsSpec)) definiteSumsUptoCard

/-- THE SECOND FORM's CARD OF 'joinlearnlaw04.DefiniteProves'. -/
def definiteProvesUptoCard : Claim7 := { stood := { row := definiteProvesUptoRow, standIns := [], harness := (true, "bc7f502e59e4b150678b83e28d3ee14c3a5c96d6683c1ef76b4923829e23565b"), looks := true }, kinds := [], alts := [], laidByText := true, laidKinds := [.data, .data, .data, .sentinel, .sentinel], laidTests := true, laidLooks := .later }
def DefiniteProvesUptoCardSaid : Prop := Claim7.holds Tryz.pinned (.plain (OpenSpec.upto definiteProvesSpec)) definiteProvesUptoCard

/-- THE SECOND FORM's CARD OF 'joinlearnlaw04.DefiniteExact'. -/
def definiteExactUptoCard : Claim7 := { stood := { row := definiteExactUptoRow, standIns := [], harness := (true, "bc7f502e59e4b150678b83e28d3ee14c3a5c96d6683c1ef76b4923829e23565b"), looks := true }, kinds := [], alts := [], laidByText := true, laidKinds := [.data, .data, .data, .sentinel, .sentinel], laidTests := true, laidLooks := .later }
def DefiniteExactUptoCardSaid : Prop := Claim7.holds Tryz.pinned (.plain (OpenSpec.upto definiteExactSpec)) definiteExactUptoCard
end Rows
end Go.Proofs.YtajlojhklhlljaaGreatDoor
