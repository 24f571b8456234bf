/-
  DERIVED. GIVEN WITH THE SEED: THE CARDS: each row of YtfjjcoggoomlbaaGreatDoorRows.lean that lists a variable, with what it lists TIED to the program's text (the seventh form; the later family's looks); each row that meets fmt, with fmt's text TOLD by the authors' own Lean function (tested against real Go, not proved from fmt's source: count such statements apart). THE CARD IS WHAT COUNTS. Prove the row's statement (the work); the ties are given (YtfjjcoggoomlbaaGreatDoorTie.lean); close each card by the builder's one call (the guide's Derived/Test/ToyasCard.lean, 'card_holds'). Laid BY PROGRAM, IN A SANDBOX (cutbox-door.mjs). By AI agents, Wed Nov 11 2026. No macro, syntax, notation, axiom, sorry.
-/
import Derived.Test.YtfjjcoggoomlbaaGreatDoorRows
import GoSem.ClaimSeven
namespace Go.Proofs.YtfjjcoggoomlbaaGreatDoor
namespace Rows

/-- THE TIED CARD OF 'joinlearnlaw04.DefiniteDecides'. -/
def definiteDecidesCard : Claim7 := { stood := { row := definiteDecidesRow, standIns := [], harness := (true, "c94b249b919579ff74071a122f90a367ebd9f441bf2f20f50263915c70149a69"), looks := true }, kinds := [], alts := [], laidByText := true, laidKinds := [.data, .data, .data, .sentinel, .sentinel], laidTests := true, laidLooks := .later }
def DefiniteDecidesCardSaid : Prop := Claim7.holds Tryz.pinned (.plain (OpenSpec.ofChange definiteDecidesSpec)) definiteDecidesCard

/-- THE TIED CARD OF 'joinlearnlaw04.DefiniteCongruent'. -/
def definiteCongruentCard : Claim7 := { stood := { row := definiteCongruentRow, standIns := [], harness := (true, "c94b249b919579ff74071a122f90a367ebd9f441bf2f20f50263915c70149a69"), looks := true }, kinds := [], alts := [], laidByText := true, laidKinds := [.data, .data, .data, .sentinel, .sentinel], laidTests := true, laidLooks := .later }
def DefiniteCongruentCardSaid : Prop := Claim7.holds Tryz.pinned (.plain (OpenSpec.ofChange definiteCongruentSpec)) definiteCongruentCard

/-- THE TIED CARD OF 'joinlearnlaw04.DefiniteSums'. -/
def definiteSumsCard : Claim7 := { stood := { row := definiteSumsRow, standIns := [], harness := (true, "c94b249b919579ff74071a122f90a367ebd9f441bf2f20f50263915c70149a69"), looks := true }, kinds := [], alts := [], laidByText := true, laidKinds := [.data, .data, .data, .sentinel, .sentinel], laidTests := true, laidLooks := .later }
def DefiniteSumsCardSaid : Prop := Claim7.holds Tryz.pinned (.plain (OpenSpec.ofChange definiteSumsSpec)) definiteSumsCard

/-- THE TIED CARD OF 'joinlearnlaw04.DefiniteProves'. -/
def definiteProvesCard : Claim7 := { stood := { row := definiteProvesRow, standIns := [], harness := (true, "c94b249b919579ff74071a122f90a367ebd9f441bf2f20f50263915c70149a69"), looks := true }, kinds := [], alts := [], laidByText := true, laidKinds := [.data, .data, .data, .sentinel, .sentinel], laidTests := true, laidLooks := .later }
def DefiniteProvesCardSaid : Prop := Claim7.holds Tryz.pinned (.plain (OpenSpec.ofChange definiteProvesSpec)) definiteProvesCard

/-- THE TIED CARD OF 'joinlearnlaw04.DefiniteExact'. -/
def definiteExactCard : Claim7 := { stood := { row := definiteExactRow, standIns := [], harness := (true, "c94b249b919579ff74071a122f90a367ebd9f441bf2f20f50263915c70149a69"), looks := true }, kinds := [], alts := [], laidByText := true, laidKinds := [.data, .data, .data, .sentinel, .sentinel], laidTests := true, laidLooks := .later }
def DefiniteExactCardSaid : Prop := Claim7.holds Tryz.pinned (.plain (OpenSpec.ofChange definiteExactSpec)) definiteExactCard

/-- THE SECOND FORM's CARD OF 'joinlearnlaw04.DefiniteDecides'. -/
def definiteDecidesUptoCard : Claim7 := { stood := { row := definiteDecidesUptoRow, standIns := [], harness := (true, "c94b249b919579ff74071a122f90a367ebd9f441bf2f20f50263915c70149a69"), looks := true }, kinds := [], alts := [], laidByText := true, laidKinds := [.data, .data, .data, .sentinel, .sentinel], laidTests := true, laidLooks := .later }
def DefiniteDecidesUptoCardSaid : Prop := Claim7.holds Tryz.pinned (.plain (OpenSpec.upto definiteDecidesSpec)) definiteDecidesUptoCard

/-- THE SECOND FORM's CARD OF 'joinlearnlaw04.DefiniteCongruent'. -/
def definiteCongruentUptoCard : Claim7 := { stood := { row := definiteCongruentUptoRow, standIns := [], harness := (true, "c94b249b919579ff74071a122f90a367ebd9f441bf2f20f50263915c70149a69"), looks := true }, kinds := [], alts := [], laidByText := true, laidKinds := [.data, .data, .data, .sentinel, .sentinel], laidTests := true, laidLooks := .later }
def DefiniteCongruentUptoCardSaid : Prop := Claim7.holds Tryz.pinned (.plain (OpenSpec.upto definiteCongruentSpec)) definiteCongruentUptoCard

/-- THE SECOND FORM's CARD OF 'joinlearnlaw04.DefiniteSums'. -/
def definiteSumsUptoCard : Claim7 := { stood := { row := definiteSumsUptoRow, standIns := [], harness := (true, "c94b249b919579ff74071a122f90a367ebd9f441bf2f20f50263915c70149a69"), looks := true }, kinds := [], alts := [], laidByText := true, laidKinds := [.data, .data, .data, .sentinel, .sentinel], laidTests := true, laidLooks := .later }
def DefiniteSumsUptoCardSaid : Prop := Claim7.holds Tryz.pinned (.plain (OpenSpec.upto definiteSumsSpec)) definiteSumsUptoCard

/-- THE SECOND FORM's CARD OF 'joinlearnlaw04.DefiniteProves'. -/
def definiteProvesUptoCard : Claim7 := { stood := { row := definiteProvesUptoRow, standIns := [], harness := (true, "c94b249b919579ff74071a122f90a367ebd9f441bf2f20f50263915c70149a69"), looks := true }, kinds := [], alts := [], laidByText := true, laidKinds := [.data, .data, .data, .sentinel, .sentinel], laidTests := true, laidLooks := .later }
def DefiniteProvesUptoCardSaid : Prop := Claim7.holds Tryz.pinned (.plain (OpenSpec.upto definiteProvesSpec)) definiteProvesUptoCard

/-- THE SECOND FORM's CARD OF 'joinlearnlaw04.DefiniteExact'. -/
def definiteExactUptoCard : Claim7 := { stood := { row := definiteExactUptoRow, standIns := [], harness := (true, "c94b249b919579ff74071a122f90a367ebd9f441bf2f20f50263915c70149a69"), looks := true }, kinds := [], alts := [], laidByText := true, laidKinds := [.data, .data, .data, .sentinel, .sentinel], laidTests := true, laidLooks := .later }
def DefiniteExactUptoCardSaid : Prop := Claim7.holds Tryz.pinned (.plain (OpenSpec.upto definiteExactSpec)) definiteExactUptoCard
end Rows
end Go.Proofs.YtfjjcoggoomlbaaGreatDoor
