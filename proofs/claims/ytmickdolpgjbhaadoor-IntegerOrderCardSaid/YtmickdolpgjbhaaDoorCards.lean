/-
  DERIVED. GIVEN WITH THE SEED: THE CARDS: each row of YtmickdolpgjbhaaDoorRows.lean that lists a variable, with what it lists TIED to the program's text (the seventh form; the later family's looks); each row that meets fmt, with fmt's text TOLD by the authors' own Lean function (tested against real Go, not proved from fmt's source: count such statements apart). THE CARD IS WHAT COUNTS. Prove the row's statement (the work); the ties are given (YtmickdolpgjbhaaDoorTie.lean); close each card by the builder's one call (the guide's Derived/Test/ToyasCard.lean, 'card_holds'). Laid BY PROGRAM, IN A SANDBOX (cutbox-door.mjs). By AI agents, Wed Nov 11 2026. No macro, syntax, notation, axiom, sorry.
-/
import Derived.Test.YtmickdolpgjbhaaDoorRows
import GoSem.ClaimSeven
namespace Go.Proofs.YtmickdolpgjbhaaDoor
namespace Rows

/-- THE TIED CARD OF 'joinlearnlaw01.IntegerText'. -/
def integerTextCard : Claim7 := { stood := { row := integerTextRow, standIns := [], harness := (true, "4e02fcfd7f73bfa87288886b30698a6a803f636294c3987f12976547ecd9f8ae"), looks := true }, kinds := [], alts := [], laidByText := true, laidKinds := [.data, .data, .data, .sentinel, .sentinel], laidTests := true, laidLooks := .later }
def IntegerTextCardSaid : Prop := Claim7.holds Tryd.pinned (.plain (OpenSpec.ofChange integerTextSpec)) integerTextCard

/-- THE TIED CARD OF 'joinlearnlaw01.IntegerSquares'. -/
def integerSquaresCard : Claim7 := { stood := { row := integerSquaresRow, standIns := [], harness := (true, "4e02fcfd7f73bfa87288886b30698a6a803f636294c3987f12976547ecd9f8ae"), looks := true }, kinds := [], alts := [], laidByText := true, laidKinds := [.data, .data, .data, .sentinel, .sentinel], laidTests := true, laidLooks := .later }
def IntegerSquaresCardSaid : Prop := Claim7.holds Tryd.pinned (.plain (OpenSpec.ofChange integerSquaresSpec)) integerSquaresCard

/-- THE TIED CARD OF 'joinlearnlaw01.IntegerRing'. -/
def integerRingCard : Claim7 := { stood := { row := integerRingRow, standIns := [], harness := (true, "4e02fcfd7f73bfa87288886b30698a6a803f636294c3987f12976547ecd9f8ae"), looks := true }, kinds := [], alts := [], laidByText := true, laidKinds := [.data, .data, .data, .sentinel, .sentinel], laidTests := true, laidLooks := .later }
def IntegerRingCardSaid : Prop := Claim7.holds Tryd.pinned (.plain (OpenSpec.ofChange integerRingSpec)) integerRingCard

/-- THE TIED CARD OF 'joinlearnlaw01.IntegerOrder'. -/
def integerOrderCard : Claim7 := { stood := { row := integerOrderRow, standIns := [], harness := (true, "4e02fcfd7f73bfa87288886b30698a6a803f636294c3987f12976547ecd9f8ae"), looks := true }, kinds := [], alts := [], laidByText := true, laidKinds := [.data, .data, .data, .sentinel, .sentinel], laidTests := true, laidLooks := .later }
def IntegerOrderCardSaid : Prop := Claim7.holds Tryd.pinned (.plain (OpenSpec.ofChange integerOrderSpec)) integerOrderCard

/-- THE SECOND FORM's CARD OF 'joinlearnlaw01.IntegerText'. -/
def integerTextUptoCard : Claim7 := { stood := { row := integerTextUptoRow, standIns := [], harness := (true, "4e02fcfd7f73bfa87288886b30698a6a803f636294c3987f12976547ecd9f8ae"), looks := true }, kinds := [], alts := [], laidByText := true, laidKinds := [.data, .data, .data, .sentinel, .sentinel], laidTests := true, laidLooks := .later }
def IntegerTextUptoCardSaid : Prop := Claim7.holds Tryd.pinned (.plain (OpenSpec.upto integerTextSpec)) integerTextUptoCard

/-- THE SECOND FORM's CARD OF 'joinlearnlaw01.IntegerSquares'. -/
def integerSquaresUptoCard : Claim7 := { stood := { row := integerSquaresUptoRow, standIns := [], harness := (true, "4e02fcfd7f73bfa87288886b30698a6a803f636294c3987f12976547ecd9f8ae"), looks := true }, kinds := [], alts := [], laidByText := true, laidKinds := [.data, .data, .data, .sentinel, .sentinel], laidTests := true, laidLooks := .later }
def IntegerSquaresUptoCardSaid : Prop := Claim7.holds Tryd.pinned (.plain (OpenSpec.upto integerSquaresSpec)) integerSquaresUptoCard

/-- THE SECOND FORM's CARD OF 'joinlearnlaw01.IntegerRing'. -/
def integerRingUptoCard : Claim7 := { stood := { row := integerRingUptoRow, standIns := [], harness := (true, "4e02fcfd7f73bfa87288886b30698a6a803f636294c3987f12976547ecd9f8ae"), looks := true }, kinds := [], alts := [], laidByText := true, laidKinds := [.data, .data, .data, .sentinel, .sentinel], laidTests := true, laidLooks := .later }
def IntegerRingUptoCardSaid : Prop := Claim7.holds Tryd.pinned (.plain (OpenSpec.upto integerRingSpec)) integerRingUptoCard

/-- THE SECOND FORM's CARD OF 'joinlearnlaw01.IntegerOrder'. -/
def integerOrderUptoCard : Claim7 := { stood := { row := integerOrderUptoRow, standIns := [], harness := (true, "4e02fcfd7f73bfa87288886b30698a6a803f636294c3987f12976547ecd9f8ae"), looks := true }, kinds := [], alts := [], laidByText := true, laidKinds := [.data, .data, .data, .sentinel, .sentinel], laidTests := true, laidLooks := .later }
def IntegerOrderUptoCardSaid : Prop := Claim7.holds Tryd.pinned (.plain (OpenSpec.upto integerOrderSpec)) integerOrderUptoCard
end Rows
end Go.Proofs.YtmickdolpgjbhaaDoor
